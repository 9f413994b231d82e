/- What the arena's made does: all three ways. -/
import Derived.Test.YtlldghknenbccaaGreatDoorRMadeB
import Derived.Test.YtlldghknenbccaaGreatDoorRKeysB
set_option linter.unusedSimpArgs false
set_option linter.unusedVariables false
set_option maxRecDepth 100000
set_option maxHeartbeats 4000000
namespace Go.Proofs.Q
open Go.RowKit Tryz
section
variable {O M0:Nat→Prop} {w:World} {xs:List (Bool × List Nat)} {gm g:Nat} {N:aS}
def bW (O:Nat→Prop) (w:World) (g gm:Nat) (A:aC):Prop:=∃B vn vf vp bm ne fe,kJ B O w g gm vn vf vp bm ne fe A
theorem bW.keep {O M:Nat→Prop} {w w':World} {g gm:Nat} {A:aC} (h:bW O w g gm A) (k:aA M w w') (hM:∀b,M b→¬O b):bW O w' g gm A:=by
 obtain ⟨B,vn,vf,vp,bm,ne,fe,h⟩:=h;exact⟨B,vn,vf,vp,bm,ne,fe,h.keep k hM⟩
theorem bW.lt {A:aC} (h:bW O w g gm A):∀b,O b→b<w.heap.size:=by obtain ⟨B,vn,vf,vp,bm,ne,fe,h⟩:=h;exact fun b hb=>(h.inO b hb).2
theorem bW.box {A:aC} (h:bW O w g gm A):∃a c v1 v2 v3,aF w g 118 [.slice a A.nodes.length c,v1,v2,v3,.pointer (some ⟨gm,0,none⟩)]:=by
 obtain ⟨B,vn,vf,vp,bm,ne,fe,h⟩:=h;have hr:=h.row;obtain ⟨a,c,e⟩:=h.nodes.isSlice;rw [e,h.nl] at hr;exact⟨_,_,_,_,_,hr⟩
def cO (O M0:Nat→Prop) (w:World) (g gm:Nat) (nodes limbs:Int) (r:(Int × Int) × aC × (Int × Int)) (e:Ending) (w':World):Prop:=
 e=.returned (.tuple #[.int .i64 r.1.1,.int .i64 r.1.2])∧(∃O':Nat→Prop,bW O' w' g gm r.2.1∧(∀b,O b→O' b)∧(∀b,O' b→O b∨w.heap.size≤b)∧bR (fun b=>M0 b∨O' b) w' gm nodes limbs r.2.2.1 r.2.2.2)∧aA (fun b=>O b∨b=gm) w w'
theorem cO.none {w':World} {nodes limbs sp ov i e:Int} {A:aC} (hA:bW O w g gm A) (hO:∀b,O b→M0 b) (hm:bR M0 w gm nodes limbs sp ov) (k:aA Nil w w'):cO O M0 w g gm nodes limbs ((i,e),A,(sp,ov)) (.returned (.tuple #[.int .i64 i,.int .i64 e])) w':=
 ⟨rfl,⟨O,hA.keep k (fun _ h=>h.elim),fun _ h=>h,fun _ h=>.inl h,hm.move k (fun _ _ h=>h.elim) fun b _ hb=>hb.elim id (hO b)⟩,k.of_nil⟩
def cU (A:aC) (nodes limbs sp ov:Int) (N:aS) (xs:List (Bool × List Nat)):(Int × Int) × aC × (Int × Int):=
 match fK A.nodes (bB N) with
 | some i=>(((i:Int),0),A,(sp,ov))
 | none=>if (dN nodes limbs sp ov xs).2.2=0 then (((A.nodes.length:Int),0),fQ A N,((dN nodes limbs sp ov xs).1,(dN nodes limbs sp ov xs).2.1)) else ((0,(dN nodes limbs sp ov xs).2.2),A,((dN nodes limbs sp ov xs).1,(dN nodes limbs sp ov xs).2.1))
theorem UQ {B0:Nat} {M:Nat→Prop} {w00:World} {A:aC} {gd gk:Bool} {ad ap ak aq al:Option Addr} {nd cd np cp nk ck nq cq nl cl:Nat} {nodes limbs sp ov:Int} (hA:bW O w00 g gm A) (hk0:aA Nil w00 w) (hT:Tab B0 w) (hO:∀b,O b→M0 b) (hM0:MB M0 w00) (hm:bR M0 w00 gm nodes limbs sp ov)
  (h:jL (Old w00) w gd ad nd cd ap np cp gk ak nk ck aq nq cq N) (hN:FL N) (hl:(bB N).length≤maxLen) (hM:MB M w) (hx:Ints M w al nl cl xs) (hs0:0≤sp) (hs:sp≤nodes) (hn:nodes≤2000) (hcnt:A.cnt<1000000) (hlen:A.nodes.length≤1000000) (h2:2≤A.nodes.length) (hwee:Wee N.t)
  (hkids:∀k∈N.kids,0≤k∧k.toNat<A.nodes.length) (hroom:(dB A N).length≤1000000000) :
  Calls prog 89 #[.pointer (some ⟨g,0,none⟩),.agg #[.int .i64 N.kind,.bool gd,.slice ad nd cd,.slice ap np cp,.bool gk,.slice ak nk ck,.int .i64 N.var,.slice aq nq cq],.slice al nl cl] w fun e w'=>cO O M0 w00 g gm nodes limbs (cU A nodes limbs sp ov N xs) e w':=by
 obtain ⟨B,vn,vf,vp,bm,ne,fe,hW⟩:=hA;unfold cU;cases hi:fK A.nodes (bB N) with
 | some i=>
  refine (aSD (hW.keep hk0 fun _ h=>h.elim) hT (h.move (aA.refl Nil w) (fun _ _ h=>h.elim) fun _ _ h=>h.elim) hN hl hi).mono ?_;rintro e w' ⟨rfl,k⟩;exact cO.none ⟨B,vn,vf,vp,bm,ne,fe,hW⟩ hO hm (hk0.trans k)
 | none=>
  simp only [];by_cases he:(dN nodes limbs sp ov xs).2.2=0
  ·rw [if_pos he];refine (aZA hW hk0 hT hO hM0 hm h hN hl hi hM hx hs0 hs hn he hcnt hlen h2 hwee hkids hroom).mono ?_;rintro e w' ⟨rfl,⟨O',vn',vf',vp',ne',fe',q1,q2,q3,q4⟩,k⟩;exact⟨rfl,⟨O',⟨B,vn',vf',vp',bm,ne',fe',q1⟩,q2,q3,q4⟩,(hk0.of_nil (M:=fun b=>O b∨b=gm)).trans k⟩
  ·rw [if_neg he];refine (bBH (M0:=M0) (hW.keep hk0 fun _ h=>h.elim) hT (h.move (aA.refl Nil w) (fun _ _ h=>h.elim) fun _ _ h=>h.elim) hN hl hi hM (hM0.keep hk0) (hm.eO hk0) hx hs0 hs hn he).mono ?_;rintro e w' ⟨rfl,q1,k⟩;refine ⟨rfl,⟨O,⟨B,vn,vf,vp,bm,ne,fe,(hW.keep hk0 fun _ h=>h.elim).keep k fun b hb=>by rw [show b=gm from hb];exact hW.notM⟩,fun _ h=>h,fun _ h=>.inl h,q1.move (aA.refl Nil w') (fun _ _ h=>h.elim) fun b _ hb=>hb.elim id (hO b)⟩,(hk0.of_nil (M:=fun b=>O b∨b=gm)).trans (k.mono fun b hb=>.inr hb)⟩
end
theorem aDU {M:Nat→Prop} {w:World} {a:Option Addr} {n c:Nat} {l:List Int} (h:cE M w a n c l) (hl:l.length≤1000000000) :
  Calls prog 75 #[.slice a n c] w fun e w'=>∃v',e=.returned v'∧aL w' w.heap.size 3 1 v' (aO l)∧aA Nil w w':=by
 have hln:l.length=n:=eU.len h;rcases Nat.eq_zero_or_pos n with h0|h0
 ·exact yN
 ·exact yP
theorem aKR {N:aS} (h:5≤N.kind) (h8:N.kind≤8) (hv:I64 N.var) (hk:∀x∈N.kids,I64 x):(bB N).length≤50+22*N.kids.length:=by
 unfold bB;have h1:=bQ (i:=N.kind) zZ zZ;have h2:=bQ hv.1 hv.2;have h3:=RQ N.kids hk;rw [if_neg zZ];simp only [aZ1,gZ1,gZ2];split
 ·simp only [aZ1,gZ1,gZ2];omega
 ·simp only [gZ2];omega
theorem aHW {kind v:Int} {ks:List Int} (h:5≤kind) (h8:kind≤8) (hv:I64 v) (hk:∀x∈ks,I64 x) (hf:ks.length≤1000000):(bB ⟨kind,0,bK,v,ks⟩).length≤maxLen:=by
 have:=aKR (N:=⟨kind,0,bK,v,ks⟩) h h8 hv hk;simp only at this;unfold maxLen;omega
theorem PX:Wee bK:=⟨fun p hp=>by simp [bK] at hp,by simp [bK,eP,bT],by simp [bK]⟩
theorem aAO {kind v:Int} {ks:List Int} (h:5≤kind) (h8:kind≤8) (hv:I64 v) (hk:∀x∈ks,I64 x) (hf:ks.length≤16777216):FL ⟨kind,0,bK,v,ks⟩:=⟨⟨zV,h8⟩,hv,hk,hf,by simp [bK,eP,bT,jE]⟩
section
variable {ks:List Int} {nodes limbs kind sp ov v k:Int} {w:World} {B0 gm g:Nat} {M0 O:Nat→Prop} {a:Option Addr}
theorem cE.ofRow {M:Nat→Prop} {w:World} {g:Nat} {E:TypeId} {l:List Int} {n:Nat} (h:aF w g E (l.map fJ)) (hM:¬M g) (hn:l.length=n) (hl:l.length≤1000000000):cE M w (some ⟨g,0,none⟩) n n l:=by
 have ho:aL w g E 1 (.slice (some ⟨g,0,none⟩) n n) (aO l):=aL.ofRow (by rw [bU];exact h) (fun c hc=>oS) (by rw [aJ,hn]) (bZ2 _) zC;obtain ⟨a,c,e,h'⟩:=aL.sl (M:=M) (R:=RI) (d:=0) (xs:=l) ho (fun b hb hm=>by have e2:some g=some b:=hb;cases e2;exact hM hm) vA (fun i hi=>yI);rw [aJ,hn] at e h';cases e;exact h'
def fE (A:aC) (k:Int):Bool:=decide (0≤k∧k<(A.nodes.length:Int))
def dW (A:aC) (nodes limbs sp ov kind:Int) (ks:List Int):(Int × Int) × aC × (Int × Int):=
 if kind≠5∧kind≠6 then ((0,1),A,(sp,ov))
 else if ks.all (fE A)=false then ((0,80),A,(sp,ov))
 else if (cM ks).length=1 then (((cM ks).getD 0 0,0),A,(sp,ov))
 else if 1<(cM ks).length then cU A nodes limbs sp ov ⟨kind,0,bK,0,cM ks⟩ []
 else ((if kind=5 then 1 else 0,0),A,(sp,ov))
def dY (A:aC) (nodes limbs sp ov kind v k:Int):(Int × Int) × aC × (Int × Int):=
 if kind≠7∧kind≠8 then ((0,1),A,(sp,ov))
 else if fE A k=false then ((0,80),A,(sp,ov))
 else cU A nodes limbs sp ov ⟨kind,0,bK,v,[k]⟩ []
theorem VG {A:aC} (h:kind≠5∧kind≠6):dW A nodes limbs sp ov kind ks=((0,1),A,(sp,ov)):=by unfold dW;rw [if_pos h]
theorem PI {A:aC} (h:kind=5∨kind=6) (h2:ks.all (fE A)=false):dW A nodes limbs sp ov kind ks=((0,80),A,(sp,ov)):=by unfold dW;rw [if_neg zZ,if_pos h2]
theorem EM {A:aC} (h:kind=5∨kind=6) (h2:ks.all (fE A)=true) (h3:(cM ks).length=1):dW A nodes limbs sp ov kind ks=(((cM ks).getD 0 0,0),A,(sp,ov)):=by unfold dW;rw [if_neg zZ,if_neg pU,if_pos h3]
theorem EH {A:aC} (h:kind=5∨kind=6) (h2:ks.all (fE A)=true) (h3:1<(cM ks).length):dW A nodes limbs sp ov kind ks=cU A nodes limbs sp ov ⟨kind,0,bK,0,cM ks⟩ []:=by unfold dW;rw [if_neg zZ,if_neg pU,if_neg zZ,if_pos h3]
theorem EJ {A:aC} (h:kind=5∨kind=6) (h2:ks.all (fE A)=true) (h3:(cM ks).length=0):dW A nodes limbs sp ov kind ks=((if kind=5 then 1 else 0,0),A,(sp,ov)):=by unfold dW;rw [if_neg zZ,if_neg pU,if_neg zZ,if_neg zZ]
theorem OP {A:aC} (h:kind≠7∧kind≠8):dY A nodes limbs sp ov kind v k=((0,1),A,(sp,ov)):=by unfold dY;rw [if_pos h]
theorem KS {A:aC} (h:kind=7∨kind=8) (h2:fE A k=false):dY A nodes limbs sp ov kind v k=((0,80),A,(sp,ov)):=by unfold dY;rw [if_neg zZ,if_pos h2]
theorem IJ {A:aC} (h:kind=7∨kind=8) (h2:fE A k=true):dY A nodes limbs sp ov kind v k=cU A nodes limbs sp ov ⟨kind,0,bK,v,[k]⟩ []:=by unfold dY;rw [if_neg zZ,if_neg pU]
theorem UO {M1:Nat→Prop} {A:aC} {n c:Nat} (hA:bW O w g gm A) (hT:Tab B0 w) (hO:∀b,O b→M0 b) (hM0:MB M0 w) (hm:bR M0 w gm nodes limbs sp ov)
  (h:cE M1 w a n c ks) (hs0:0≤sp) (hs:sp≤nodes) (hn:nodes≤2000) (hcnt:A.cnt<1000000) (hlen:A.nodes.length≤1000000) (h2:2≤A.nodes.length) (hks:ks.length≤1000000) (hroom:(dB A ⟨kind,0,bK,0,cM ks⟩).length≤1000000000) :
  Calls prog 52 #[.pointer (some ⟨g,0,none⟩),.int .i64 kind,.slice a n c] w fun e w'=>cO O M0 w g gm nodes limbs (dW A nodes limbs sp ov kind ks) e w':=by
 have hln:ks.length=n:=eU.len h;have hcap:=eU.cap h;have hle:=eU.le h;obtain ⟨av,cv,v1,v2,v3,hbox⟩:=hA.box;have HA:=jJ (aI8 hA hT hO hM0 hm h hroom hbox);have HLN:=jJ hln;clear hA hT hO hM0 hm h hroom hbox;by_cases hk:kind≠5∧kind≠6
 ·have HK0:=jJ hk;have e5:(kind != 5)=true:=by simpa using hk.1
  have e6:(kind != 6)=true:=by simpa using hk.2
  go_enter func52,ntmps52
  go_wp2_with fail
  go_ret2
  rw [VG HK0.o];exact cO.none HA.o.1 HA.o.2.2.1 HA.o.r4.1 kOf
 ·have hk2:kind=5∨kind=6:=zZ;clear hk;have HK2:=jJ hk2;rcases hk2 with rfl|rfl;all_goals
   go_enter func52,ntmps52
   go_wp2_with fail
   go_loopw [9,23] (fun _ i wr=>∃k:Nat,k≤n∧i=.int .i64 (k:Int)∧(ks.take k).all (fE A)=true∧aA Nil w wr) (fun _ i _=>n-(intOf i).toNat)
   case atStart=>exact⟨0,aZ2 _,rfl,rfl,aA.refl _ _⟩
   case round=>
    obtain ⟨k,hk,rfl,hall,hkr⟩:=hrel;by_cases hlt:k<n
    ·have hkl:k<ks.length:=by rw [HLN.o];exact hlt
     obtain ⟨b,off,rfl,ck⟩:=bA (HA.o.r5.1.eO hkr) hlt;have hsucc:(ks.take (k+1)).all (fE A)=(fE A (ks.getD k 0)):=by rw [JG hkl,List.all_append,hall];simp
     have hmem:ks.getD k 0∈ks:=by simp [List.getD,hkl]
     have j0:(0:Int)≤(k:Int):=zZ;have j1:(k:Int)<(n:Int):=zZ;obtain ⟨x,hx⟩:∃x,x=ks.getD k 0:=⟨_,rfl⟩;rw [←hx] at ck hsucc hmem;have HK:=jJ (aI3 hkr hsucc hmem);clear hkr hsucc hmem hx hall;cases hh:fE A x
     ·have HH:=jJ hh;have e:decide (0≤x∧x<(A.nodes.length:Int))=false:=hh;clear hh;go_wp2_with (go_at_call 71;refine (DR (i:=x) (HA.o.r7.keep HK.o.1 id)).mono ?_;rintro e' w1 ⟨rfl,hk1⟩;rw [e];have H1:=jJ hk1;clear hk1)
      go_ret2
      rw [PI xQ (by rw [List.all_eq_false];exact⟨x,HK.o.2.2,by rw [HH.o];simp⟩)];exact cO.none HA.o.1 HA.o.2.2.1 HA.o.r4.1 (HK.o.1.trans H1.o)
     ·have HH:=jJ hh;have e:decide (0≤x∧x<(A.nodes.length:Int))=true:=hh;clear hh;go_wp2_with (go_at_call 71;refine (DR (i:=x) (HA.o.r7.keep HK.o.1 id)).mono ?_;rintro e' w1 ⟨rfl,hk1⟩;rw [e];have H1:=jJ hk1;clear hk1)
      go_roundw
      case rel=>exact⟨k+1,zZ,zF,by rw [HK.o.2.1,HH.o],HK.o.1.trans H1.o⟩
      case measure=>exact zI
    ·obtain rfl:k=n:=zZ;rw [eZ1 (by rw [HLN.o];exact bZ2 _)] at hall;have hmemk:∀x∈cM ks,0≤x∧x<(A.nodes.length:Int):=fun x hx=>by
      have h1:=kZ2.1 hall x (aMP hx);simpa [fE] using h1
     have hnl:=YU ks;have HK:=jJ (aI3 hkr hmemk hnl);have HAL:=jJ hall;clear hkr hmemk hnl hall;go_upto_region 10 with (go_at_call 75;refine (aDU (HA.o.r5.1.eO HK.o.1) zZ).mono ?_;rintro e w1 ⟨v1,rfl,ho1,hk1⟩;obtain ⟨a1,c1,rfl⟩:=ho1.isSlice;have H1:=jJ (aI ho1 hk1);clear ho1 hk1)
     go_upto_region 11 with (go_at_call 72;refine (aEW H1.o.1 zZ).mono ?_;rintro e w2 ⟨rfl,ho2,hk2⟩;have H2:=jJ (aI ho2 (H1.o.2.trans' hk2 (fun b hb=>.inr (H1.o.1.lt b hb).1)));clear ho2 hk2)
     go_upto_region 12 with (go_at_call 99;refine (aAH H2.o.1 (by rw [FX];omega)).mono ?_;rintro e w3 ⟨v3,rfl,ho3,-,hk3⟩;obtain ⟨a3,c3,rfl⟩:=ho3.isSlice;have H3:=jJ (aI ho3 (HK.o.1.trans (H2.o.2.trans' hk3 (fun b hb=>.inr (H2.o.1.lt b hb).1))));clear ho3 hk3)
     have hl3:(aO (Lib.compact (iO ks))).length=(cM ks).length:=aJ _;have ho3:aL w3 wr.heap.size 3 1 (.slice a3 (aO (Lib.compact (iO ks))).length c3) (aO (cM ks)):=H3.o.1;rw [hl3] at ho3⊢;obtain ⟨m,hm⟩:∃m,m=(cM ks).length:=⟨_,rfl⟩;rw [←hm] at ho3⊢;have hmk:m≤ks.length:=by rw [hm];exact HK.o.2.2
     have HO:=jJ (aI ho3 hm);by_cases hm1:m=1
     ·have e1:((m:Int)==1)=true:=zV;obtain ⟨g3,rest,rfl,hrow,-⟩:=ho3.opens (by rw [aJ,←hm]) zZ;have c0:w3.cell? ⟨g3,0,none⟩=some (.int .i64 ((cM ks).getD 0 0)):=by
       have h0:0<(cM ks).length:=zZ;have:=hrow.el ho3.sz (i:=0) (j:=0) (by rw [aJ];exact h0) zZ;rw [this];simp [aO,List.getD,h0]
      have j0:(0:Int)<(m:Int):=zZ;have j1:m≤1:=zZ;have hg3:=hrow.lt;clear ho3 hrow hm hl3;have hm1':(cM ks).length=1:=HO.o.2.symm.trans hm1;have HM1:=jJ hm1';clear hm1';subst hm1;obtain ⟨y,hy⟩:∃y,y=(cM ks).getD 0 0:=⟨_,rfl⟩;rw [←hy] at c0;have HY:=jJ hy;clear hy;go_wp2_with fail
      go_ret2
      rw [EM xQ HAL.o HM1.o,←HY.o];exact cO.none HA.o.1 HA.o.2.2.1 HA.o.r4.1 H3.o.2
     ·have e1:((m:Int)==1)=false:=zV;by_cases hm2:1<m
      ·have e2:decide ((m:Int) > 1)=true:=zV;clear ho3 hm hl3;go_wp2_with (go_at_call 89;obtain ⟨a4,c4,e4,h4⟩:=aL.sl (M:=Old w) (R:=RI) (d:=0) (xs:=cM ks) HO.o.1 (fun b hb ho=>by have h1:=(HO.o.1.lt b hb).1;have h2:=HK.o.1.size;have h3:b<w.heap.size:=ho;omega) vA (fun i hi=>yI);rw [e4];go_loud (refine (UQ (M:=Nil) HA.o.1 H3.o.2 (HA.o.2.1.eO H3.o.2) HA.o.2.2.1 HA.o.2.2.2.1 HA.o.r4.1 (⟨nR _ _,eI.zero,h4⟩:jL (Old w) w3 _ _ _ _ _ _ _ _ _ _ _ _ _ _ ⟨_,0,bK,0,cM ks⟩) (aAO zY zY ⟨zY,zY⟩ (fun x hx=>by have:=HK.o.2.1 x hx;unfold I64;omega) (by have:=HK.o.2.2;omega)) (aHW zY zY ⟨zY,zY⟩ (fun x hx=>by have:=HK.o.2.1 x hx;unfold I64;omega) (by have:=HK.o.2.2;omega)) (MB.nil _) eU.nil hs0 hs hn hcnt hlen h2 PX (fun x hx=>by have:=HK.o.2.1 x hx;omega) HA.o.r6.1).mono ?_);rintro e w4 ⟨rfl,hst⟩;have H4:=jJ hst;clear hst)
       go_ret2
       rw [EH xQ HAL.o (by rw [←HO.o.2];exact hm2)];exact⟨rfl,H4.o⟩
      ·have e2:decide ((m:Int) > 1)=false:=zV;clear ho3 hm hl3;go_wp2_with fail
       go_ret2
       rw [EJ xQ HAL.o (by rw [←HO.o.2];omega)];exact cO.none HA.o.1 HA.o.2.2.1 HA.o.r4.1 H3.o.2
theorem OQ {A:aC} (hA:bW O w g gm A) (hT:Tab B0 w) (hO:∀b,O b→M0 b) (hM0:MB M0 w) (hm:bR M0 w gm nodes limbs sp ov)
  (hv:I64 v) (hs0:0≤sp) (hs:sp≤nodes) (hn:nodes≤2000) (hcnt:A.cnt<1000000) (hlen:A.nodes.length≤1000000) (h2:2≤A.nodes.length) (hroom:(dB A ⟨kind,0,bK,v,[k]⟩).length≤1000000000) :
  Calls prog 80 #[.pointer (some ⟨g,0,none⟩),.int .i64 kind,.int .i64 v,.int .i64 k] w fun e w'=>cO O M0 w g gm nodes limbs (dY A nodes limbs sp ov kind v k) e w':=by
 obtain ⟨av,cv,v1,v2,v3,hbox⟩:=hA.box;have HA:=jJ (aI8 hA hT hO hM0 hm hroom hbox hv);clear hA hT hO hM0 hm hroom hbox hv;by_cases hk:kind≠7∧kind≠8
 ·have HK0:=jJ hk;have e5:(kind != 7)=true:=by simpa using hk.1
  have e6:(kind != 8)=true:=by simpa using hk.2
  go_enter func80,ntmps80
  go_wp2_with fail
  go_ret2
  rw [OP HK0.o];exact cO.none HA.o.1 HA.o.2.2.1 HA.o.r4.1 kOf
 ·have hk2:kind=7∨kind=8:=zZ;clear hk;cases hh:fE A k
  ·have HH:=jJ hh;have e:decide (0≤k∧k<(A.nodes.length:Int))=false:=hh;clear hh;rcases hk2 with rfl|rfl;all_goals
    go_enter func80,ntmps80
    go_wp2_with (go_at_call 71;refine (DR (i:=k) HA.o.r6.1).mono ?_;rintro e' w1 ⟨rfl,hk1⟩;rw [e];have H1:=jJ hk1;clear hk1)
    go_ret2
    rw [KS xQ HH.o];exact cO.none HA.o.1 HA.o.2.2.1 HA.o.r4.1 H1.o
  ·have HH:=jJ hh;have e:decide (0≤k∧k<(A.nodes.length:Int))=true:=hh;clear hh;rcases hk2 with rfl|rfl;all_goals
    go_enter func80,ntmps80
    go_wp2_with (first|(go_at_call 71;refine (DR (i:=k) HA.o.r6.1).mono ?_;rintro e' w1 ⟨rfl,hk1⟩;rw [e];have H1:=jJ hk1;clear hk1)|(go_at_call 89;have kk:=H1.o.trans (c:=w1.alloc (.cells #[.int .i64 k] 3)) kOf;have hkr:0≤k∧k<(A.nodes.length:Int):=(by have:=HH.o;simpa [fE] using this);go_loud (refine (UQ (M:=Nil) HA.o.1 kk (HA.o.2.1.eO kk) HA.o.2.2.1 HA.o.2.2.2.1 HA.o.r4.1 (⟨nR _ _,eI.zero,cE.ofRow (l:=[k]) aF.alloc (fun ho=>by have h3:w1.heap.size<w.heap.size:=ho;have:=H1.o.size;omega) rfl zW⟩:jL (Old w) (w1.alloc (.cells #[.int .i64 k] 3)) _ _ _ _ _ _ _ _ _ _ _ _ _ _ ⟨_,0,bK,v,[k]⟩) (aAO zY zY HA.o.r7 (fun x hx=>by rw [dZ1.1 hx];unfold I64;omega) zW) (aHW zY zY HA.o.r7 (fun x hx=>by rw [dZ1.1 hx];unfold I64;omega) zW) (MB.nil _) eU.nil hs0 hs hn hcnt hlen h2 PX (fun x hx=>by rw [dZ1.1 hx];omega) HA.o.r5.1).mono ?_);rintro e w4 ⟨rfl,hst⟩;have H4:=jJ hst;clear hst))
    go_ret2
    rw [IJ xQ HH.o];exact⟨rfl,H4.o⟩
end
def gH (B:aY):aS:=⟨B.kind,B.d,B.t,0,[]⟩
def jD (B:aY):List Int:=[B.d,B.t.k]++B.t.parts.map (·.2)
structure OkB (A:aC) (B:aY):Prop where
 ok:FL (gH B)
 len:(bB (gH B)).length≤maxLen
 wee:Wee B.t
 wd:eP B.d.natAbs≤536870912
 room:(dB A (gH B)).length≤1000000000
theorem aOT {A:aC} {B:aY} (h:OkB A B):∀z∈jD B,eP z.natAbs≤536870912:=fun z hz=>by
 unfold jD at hz;rcases jZ1.1 hz with hz|hz
 ·rcases mZ1.1 hz with rfl|hz
  ·exact h.wd
  ·rw [dZ1.1 hz];exact h.wee.k
 ·obtain ⟨p,hp,rfl⟩:=iZ2.1 hz;exact h.wee.parts p hp
section
variable {nodes limbs sp ov:Int} {B:aY} {w:World} {l:aM}
def mY (A:aC) (nodes limbs sp ov:Int) (r:Int × aY):(Int × Int) × aC × (Int × Int):=
 if r.1≠0 then ((0,r.1),A,(sp,ov))
 else if r.2.kind≤1 then ((r.2.kind,0),A,(sp,ov))
 else cU A nodes limbs sp ov (gH r.2) ((jD r.2).map lH)
def cX (A:aC) (nodes limbs sp ov:Int) (X:aY):(Int × Int) × aC × (Int × Int):=mY A nodes limbs sp ov (bJ X)
theorem KM {A:aC} {e:Int} (h:e≠0):mY A nodes limbs sp ov (e,B)=((0,e),A,(sp,ov)):=if_pos h
theorem BD {A:aC} (h:B.kind≤1):mY A nodes limbs sp ov (0,B)=((B.kind,0),A,(sp,ov)):=by unfold mY;rw [if_neg zW,if_pos h]
theorem AA {A:aC} (h:¬B.kind≤1):mY A nodes limbs sp ov (0,B)=cU A nodes limbs sp ov (gH B) ((jD B).map lH):=by unfold mY;rw [if_neg zW,if_neg h]
theorem UN {B0:Nat} {O M0 M1 M2:Nat→Prop} {g gm:Nat} {A:aC} {gd gk:Bool} {ad ap ak:Option Addr} {nd cd np cp nk ck:Nat} {k d z:Int} (hA:bW O w g gm A) (hT:Tab B0 w) (hO:∀b,O b→M0 b) (hM0:MB M0 w) (hm:bR M0 w gm nodes limbs sp ov)
  (hd:ZAt Nil w gd ad nd cd d) (h:bI M1 M2 w ap np cp l) (hk:ZAt Nil w gk ak nk ck z) (h1:np≤16777216) (h2':nk≤1073741824) (hw:Wee (bC ⟨l,z⟩)) (hwd:eP d.natAbs≤536870912) (hs0:0≤sp) (hs:sp≤nodes) (hn:nodes≤2000) (hcnt:A.cnt<1000000) (hlen:A.nodes.length≤1000000) (h2:2≤A.nodes.length) (hok:2≤(bJ ⟨k,d,⟨l,z⟩⟩).2.kind→OkB A (bJ ⟨k,d,⟨l,z⟩⟩).2) :
  Calls prog 37 #[.pointer (some ⟨g,0,none⟩),.agg #[.int .i64 k,.bool gd,.slice ad nd cd,.slice ap np cp,.bool gk,.slice ak nk ck]] w fun e w'=>cO O M0 w g gm nodes limbs (cX A nodes limbs sp ov ⟨k,d,⟨l,z⟩⟩) e w':=by
 obtain ⟨i1,hi1⟩:=info_parts WW;have HI:=jJ hi1;unfold cX;have k0':aA Nil w (w.alloc (.cells #[.int .i64 k,.bool gd,.slice ad nd cd,.slice ap np cp,.bool gk,.slice ak nk ck] 82)):=kOf;have hnorm:=OL (k:=k) (M:=Old (w.alloc (.cells #[.int .i64 k,.bool gd,.slice ad nd cd,.slice ap np cp,.bool gk,.slice ak nk ck] 82))) (MB.old _) (hd.eO k0') (h.eO k0') (hk.eO k0') h1 h2' hw hwd;obtain ⟨r,hr⟩:∃r,r=bJ ⟨k,d,⟨l,z⟩⟩:=⟨_,rfl⟩;rw [←hr] at hnorm hok⊢;clear hr;obtain ⟨er,B⟩:=r;simp only at hok⊢;have HA:=jJ (aI7 hA hT hO hM0 hm hok hnorm);clear hA hT hO hM0 hm hd h hk hok hnorm hi1 hw;go_enter func37,ntmps37
 go_upto_region 1 with (fail)
 have HN:=HA.o.r6;obtain ⟨w0,e_1,k0,r0⟩:=bx1 w 82 [.int .i64 k,.bool gd,.slice ad nd cd,.slice ap np cp,.bool gk,.slice ak nk ck];rw [e_1] at HN⊢;clear e_1;obtain ⟨c0,c1,c2,c3,c4,c5⟩:=r0.eZ;have lr0:=r0.lt;have HN':=jJ HN;have H0:=jJ (aI k0 r0);clear k0 r0 HN k0';go_upto_region 4 with (go_at_call 88;refine HN'.o.mono ?_;rintro e w1 ⟨v,rfl,⟨gd',ad',nd',cd',ap',np',cp',gk',ak',nk',ck',rfl,hv⟩,hk1⟩;have r1:=H0.o.2.keep hk1 id;obtain ⟨z0,z1,z2,z3,z4,z5⟩:=r1.eZ;obtain ⟨y0,y1,y2,y3,y4,y5⟩:=r1.iY;have H1:=jJ (aI3 hv hk1 r1);clear hv hk1 r1)
 have r6:=H1.o.2.2.six (.int .i64 B.kind) (.bool gd') (.slice ad' nd' cd') (.slice ap' np' cp') (.bool gk') (.slice ak' nk' ck');have k6:=aA.six (w:=w1) (g:=w.heap.size) (.int .i64 B.kind) (.bool gd') (.slice ad' nd' cd') (.slice ap' np' cp') (.bool gk') (.slice ak' nk' ck');have b6:=H1.o.1.out (M:=Old w) lr0 (fun b hb=>cZ1 hb H0.o.1.size) k6;have hk2:aA Nil w _:=(H0.o.1.trans H1.o.2.1).own (bZ2 _) k6;generalize (((((w1.setCell ⟨w.heap.size,0,none⟩ (.int .i64 B.kind)).setCell ⟨w.heap.size,1,none⟩ (.bool gd')).setCell ⟨w.heap.size,2,none⟩ (.slice ad' nd' cd')).setCell ⟨w.heap.size,3,none⟩ (.slice ap' np' cp')).setCell ⟨w.heap.size,4,none⟩ (.bool gk')).setCell ⟨w.heap.size,5,none⟩ (.slice ak' nk' ck')=w2 at *
 obtain ⟨x0,x1,x2,x3,x4,x5⟩:=r6.eZ;have l2:=r6.lt;have H2:=jJ (aI3 b6 hk2 r6);clear z0 z1 z2 z3 z4 z5 y0 y1 y2 y3 y4 y5 c0 c1 c2 c3 c4 c5 b6 k6 hk2 r6;by_cases he:er=0
 ·subst he;by_cases hb:B.kind≤1
  ·have e1:decide (B.kind≤1)=true:=decide_eq_true hb;have HB:=jJ hb;clear hb;go_wp2_with fail
   go_ret2
   rw [BD HB.o];exact cO.none HA.o.1 HA.o.2.2.1 HA.o.r4.1 H2.o.2.1
  ·have e1:decide (B.kind≤1)=false:=decide_eq_false hb;have hokB:=HA.o.r5.1 zZ;have HB:=jJ (aI hb hokB);clear hb hokB;go_upto_region 9 with (fail)
   have r3:=aF.alloc (w:=w2) (E:=25) (xs:=[.bool gd',.slice ad' nd' cd',.bool gk',.slice ak' nk' ck']);have k3:aA Nil w2 (w2.alloc (.cells #[.bool gd',.slice ad' nd' cd',.bool gk',.slice ak' nk' ck'] 25)):=kOf;change aF (w2.alloc (.cells #[.bool gd',.slice ad' nd' cd',.bool gk',.slice ak' nk' ck'] 25)) _ _ _ at r3;generalize w2.alloc (.cells #[.bool gd',.slice ad' nd' cd',.bool gk',.slice ak' nk' ck'] 25)=w3 at *
   have row3:=H2.o.2.2.keep k3 id;obtain ⟨y0,y1,y2,y3,y4,y5⟩:=row3.eZ;have hT2:=H2.o.1.2;have hnp:np'=B.t.parts.length:=(eU.len hT2.1).symm;have hcap:=eU.cap hT2.1;have hle:=eU.le hT2.1;have hfew:=HB.o.2.wee.few;have hnpb:np'≤16777216:=zZ;have ho3:aL w3 w2.heap.size 25 2 (.slice (some ⟨w2.heap.size,0,none⟩) 2 2) [[.bool gd',.slice ad' nd' cd'],[.bool gk',.slice ak' nk' ck']]:=aL.ofRow r3 zW rfl (bZ2 _) zY;have hs3:=k3.size;have hn0:jD B=B.d::B.t.k::B.t.parts.map (·.2):=rfl;have H3:=jJ (aI5 ho3 k3 row3 hnp hn0);clear x0 x1 x2 x3 x4 x5 r3 k3 row3 hT2 hnp ho3 hn0;go_wp2_with fail
   go_loopw [7,9,35] (fun v _ iv wr=>∃(j:Nat) (va:Option Addr) (vc:Nat) (els:List (List Value)),j≤np'∧iv=.int .i64 (j:Int)∧v=.slice va (j+2) vc∧els.length=j+2∧aL wr w2.heap.size 25 2 (.slice va (j+2) vc) els∧(∀i,i<j+2→RZ (Old w) w2 (els.getD i []) ((jD B).getD i 0))∧aA Nil w2 wr) (fun _ _ iv _=>np'-(intOf iv).toNat)
   case atStart=>
    refine ⟨0,_,_,_,aZ2 _,rfl,rfl,rfl,H3.o.1,fun i hi=>?_,H3.o.2.1⟩;rcases (show i=0∨i=1 by omega) with rfl|rfl
    ·exact⟨_,_,_,_,rfl,H2.o.1.1⟩
    ·exact⟨_,_,_,_,rfl,H2.o.1.2.2⟩
   case round=>
    obtain ⟨j,va,vc,els,hj,rfl,rfl,hel,hown,hr,hkr⟩:=hrel;by_cases hlt:j<np'
    ·have j0:(0:Int)≤(j:Int):=zZ;have j1:(j:Int)<(np':Int):=zZ;obtain ⟨b',off',g',a'',n'',c'',hae,hb',-,x0',x1',x2',hzz',-,-⟩:=H2.o.1.2.1.at hlt;subst hae;have z0:=hkr.eY hb' id x0';have z1:=hkr.eY hb' id x1';have z2:=hkr.eY hb' id x2';have hbr:b'<wr.heap.size:=cZ1 hb' hkr.size;have hget:(jD B).getD (j+2) 0=(pth B.t.parts j).2:=by
      have:j<B.t.parts.length:=by have:=H3.o.2.2.2.1;omega
      simp [jD,List.getD,pth,this]
     have hws:w2.heap.size≤wr.heap.size:=hkr.size;have HC:=jJ (aI6 hel hown hr hkr hzz' hget);clear hel hown hr hkr hzz' hget x0' x1' x2';generalize (pth B.t.parts j).1=v at *
     go_wp2_with (at_builtin;go_loud (refine bY _ rfl (.tmp 39) (.tmp 42) 109 rfl w2.heap.size 25 i1 (.agg #[.bool false,.slice none 0 0]) 2 32 underlying109 HI.o.1 HI.o.2.1 HI.o.2.2.1 HI.o.2.2.2 rfl zY (.slice va (j+2) vc) els rfl ((HC.o.2.1.eO (w':=wr.alloc (.cells #[.int .i64 v,.bool g',.slice a'' n'' c''] 96)) kOf).eO kOf) ⟨wr.heap.size+1,0,none⟩ 1 1 [[.bool g',.slice a'' n'' c'']] rfl rfl zW (TQ _ _ _ _) yO sH sH zV ?_);intro v' w4 ho hk2 hf2 _;obtain ⟨a7,c7,rfl⟩:=ho.isSlice;have e7:(els++[[Value.bool g',.slice a'' n'' c'']]).length=j+1+2:=(by have q:=HC.o.1;have q2:(els++[[Value.bool g',.slice a'' n'' c'']]).length=els.length+1:=aZ1;omega);rw [e7] at ho⊢;have HO:=jJ (aI ho hk2);clear ho hk2 hf2 e7)
     go_roundw
     case rel=>
      refine ⟨j+1,a7,c7,_,zZ,zF,rfl,by have q:=HC.o.1;have q2:(els++[[Value.bool g',.slice a'' n'' c'']]).length=els.length+1:=aZ1;omega,HO.o.1,fun i hi=>?_,((HC.o.2.2.2.1.trans (c:=wr.alloc (.cells #[.int .i64 v,.bool g',.slice a'' n'' c''] 96)) kOf).trans kOf).newer HO.o.2 (fun b hb=>(HC.o.2.1.lt b hb).1)⟩;rcases Nat.lt_or_ge i (j+2) with hik|hik
      ·exact sX
      ·obtain rfl:i=j+2:=zZ;have e8:(els++[[Value.bool g',.slice a'' n'' c'']]).getD els.length []=[.bool g',.slice a'' n'' c'']:=DF _ _ _;rw [HC.o.1] at e8;rw [e8,HC.o.r5];exact⟨_,_,_,_,rfl,HC.o.r4.1⟩
     case measure=>exact zI
    ·obtain rfl:np'=j:=zZ;have rowr:=H2.o.2.2.keep hkr id;obtain ⟨x0,x1,x2,x3,x4,x5⟩:=rowr.eZ;have lr:=rowr.lt;have hin:=bAC (M:=Old w) (w:=wr) (zs:=jD B) hown (fun b hb ho=>by have h1:=(hown.lt b hb).1;have h2:=H2.o.2.1.size;have h3:b<w.heap.size:=ho;omega) (by rw [hel];have:=H3.o.2.2.2.1;simp [jD];omega) (fun i hi=>by
      rw [hel] at hi;obtain ⟨g5,a5,n5,c5,q1,q2⟩:=hr i hi;refine ⟨g5,a5,n5,c5,q1,q2.eO hkr,?_⟩;have:=aOT HB.o.2 ((jD B).getD i 0) (by
       have:i<(jD B).length:=by have:=H3.o.2.2.2.1;simp [jD];omega
       simp [List.getD,this])
      omega)
     have HC:=jJ (aI hkr hin);clear hel hown hr hkr hin rowr;go_wp2_with (go_at_call 89;obtain ⟨a5,c5,e5,h5⟩:=HC.o.2;rw [e5];go_loud (refine (UQ (N:=gH B) HA.o.1 (H2.o.2.1.trans HC.o.1) (HA.o.2.1.eO (H2.o.2.1.trans HC.o.1)) HA.o.2.2.1 HA.o.2.2.2.1 HA.o.r4.1 (⟨H2.o.1.1.eO HC.o.1,H2.o.1.2.eO HC.o.1,eU.nil⟩:jL (Old w) wr _ _ _ _ _ _ _ _ _ _ _ _ _ _ (gH B)) HB.o.2.ok HB.o.2.len (MB.gY (H2.o.2.1.trans HC.o.1).size) h5 hs0 hs hn hcnt hlen h2 HB.o.2.wee (fun x hx=>by cases hx) HB.o.2.room).mono ?_);rintro e w4 ⟨rfl,hst⟩;have H4:=jJ hst;clear hst)
     go_ret2
     rw [AA (B:=B) (by have h9:=HB.o.1;omega)];exact⟨rfl,H4.o⟩
 ·have e1:(er != 0)=true:=by simpa using he
  have HE:=jJ he;clear he;go_wp2_with fail
  go_ret2
  rw [KM HE.o];exact cO.none HA.o.1 HA.o.2.2.1 HA.o.r4.1 H2.o.2.1
end
theorem nY:eP 0=0:=sP
end Go.Proofs.Q
