/- What the arena's made does: all three ways. -/
import Derived.Test.YtlldghknenbccaaGreatDoorPMadeB
import Derived.Test.YtlldghknenbccaaGreatDoorPKeysB
set_option linter.unusedSimpArgs false
set_option linter.unusedVariables false
set_option maxRecDepth 100000
set_option maxHeartbeats 4000000
namespace Go.Proofs.Q
open Go.RowKit Tryz
section
variable {O M0:Nat→Prop} {w:World} {xs:List (Bool × List Nat)} {gm g:Nat} {N:aS}
def bX (O:Nat→Prop) (w:World) (g gm:Nat) (A:aF):Prop:=∃B vn vf vp bm ne fe,ArenaW B O w g gm vn vf vp bm ne fe A
theorem bX.keep {O M:Nat→Prop} {w w':World} {g gm:Nat} {A:aF} (h:bX O w g gm A) (k:aA M w w') (hM:∀b,M b→¬O b):bX O w' g gm A:=by
 obtain ⟨B,vn,vf,vp,bm,ne,fe,h⟩:=h;exact⟨B,vn,vf,vp,bm,ne,fe,h.keep k hM⟩
theorem bX.lt {A:aF} (h:bX O w g gm A):∀b,O b→b<w.heap.size:=by obtain ⟨B,vn,vf,vp,bm,ne,fe,h⟩:=h;exact fun b hb=>(h.inO b hb).2
theorem bX.box {A:aF} (h:bX O w g gm A):∃a c v1 v2 v3,aC w g 118 [.slice a A.nodes.length c,v1,v2,v3,.pointer (some ⟨gm,0,none⟩)]:=by
 obtain ⟨B,vn,vf,vp,bm,ne,fe,h⟩:=h;have hr:=h.row;obtain ⟨a,c,e⟩:=h.nodes.isSlice;rw [e,h.nl] at hr;exact⟨_,_,_,_,_,hr⟩
def cK (O M0:Nat→Prop) (w:World) (g gm:Nat) (nodes limbs:Int) (r:(Int × Int) × aF × (Int × Int)) (e:Ending) (w':World):Prop:=
 e=.returned (.tuple #[.int .i64 r.1.1,.int .i64 r.1.2])∧(∃O':Nat→Prop,bX O' w' g gm r.2.1∧(∀b,O b→O' b)∧(∀b,O' b→O b∨w.heap.size≤b)∧bK (fun b=>M0 b∨O' b) w' gm nodes limbs r.2.2.1 r.2.2.2)∧aA (fun b=>O b∨b=gm) w w'
theorem cK.none {w':World} {nodes limbs sp ov i e:Int} {A:aF} (hA:bX O w g gm A) (hO:∀b,O b→M0 b) (hm:bK M0 w gm nodes limbs sp ov) (k:aA Nil w w'):cK O M0 w g gm nodes limbs ((i,e),A,(sp,ov)) (.returned (.tuple #[.int .i64 i,.int .i64 e])) w':=
 ⟨rfl,⟨O,hA.keep k (fun _ h=>h.elim),fun _ h=>h,fun _ h=>.inl h,hm.move k (fun _ _ h=>h.elim) fun b _ hb=>hb.elim id (hO b)⟩,k.of_nil⟩
def dF (A:aF) (nodes limbs sp ov:Int) (N:aS) (xs:List (Bool × List Nat)):(Int × Int) × aF × (Int × Int):=
 match keyF A.nodes (bA N) with
 | some i=>(((i:Int),0),A,(sp,ov))
 | none=>if (dK nodes limbs sp ov xs).2.2=0 then (((A.nodes.length:Int),0),addA A N,((dK nodes limbs sp ov xs).1,(dK nodes limbs sp ov xs).2.1)) else ((0,(dK nodes limbs sp ov xs).2.2),A,((dK nodes limbs sp ov xs).1,(dK nodes limbs sp ov xs).2.1))
theorem amade_any {B0:Nat} {M:Nat→Prop} {w00:World} {A:aF} {gd gk:Bool} {ad ap ak aq al:Option Addr} {nd cd np cp nk ck nq cq nl cl:Nat} {nodes limbs sp ov:Int} (hA:bX O w00 g gm A) (hk0:aA Nil w00 w) (hT:Tab B0 w) (hO:∀b,O b→M0 b) (hM0:MB M0 w00) (hm:bK M0 w00 gm nodes limbs sp ov)
  (h:NodeAt (Old w00) w gd ad nd cd ap np cp gk ak nk ck aq nq cq N) (hN:OkNode N) (hl:(bA N).length≤maxLen) (hM:MB M w) (hx:Ints M w al nl cl xs) (hs0:0≤sp) (hs:sp≤nodes) (hn:nodes≤2000) (hcnt:A.cnt<1000000) (hlen:A.nodes.length≤1000000) (h2:2≤A.nodes.length) (hwee:Wee N.t)
  (hkids:∀k∈N.kids,0≤k∧k.toNat<A.nodes.length) (hroom:(cO A N).length≤1000000000) :
  Calls prog 89 #[.pointer (some ⟨g,0,none⟩),.agg #[.int .i64 N.kind,.bool gd,.slice ad nd cd,.slice ap np cp,.bool gk,.slice ak nk ck,.int .i64 N.var,.slice aq nq cq],.slice al nl cl] w fun e w'=>cK O M0 w00 g gm nodes limbs (dF A nodes limbs sp ov N xs) e w':=by
 obtain ⟨B,vn,vf,vp,bm,ne,fe,hW⟩:=hA;unfold dF;cases hi:keyF A.nodes (bA N) with
 | some i=>
  refine (made_there (hW.keep hk0 fun _ h=>h.elim) hT (h.move (aA.refl Nil w) (fun _ _ h=>h.elim) fun _ _ h=>h.elim) hN hl hi).mono ?_;rintro e w' ⟨rfl,k⟩;exact cK.none ⟨B,vn,vf,vp,bm,ne,fe,hW⟩ hO hm (hk0.trans k)
 | none=>
  simp only [];by_cases he:(dK nodes limbs sp ov xs).2.2=0
  ·rw [if_pos he];refine (made_put hW hk0 hT hO hM0 hm h hN hl hi hM hx hs0 hs hn he hcnt hlen h2 hwee hkids hroom).mono ?_;rintro e w' ⟨rfl,⟨O',vn',vf',vp',ne',fe',q1,q2,q3,q4⟩,k⟩;exact⟨rfl,⟨O',⟨B,vn',vf',vp',bm,ne',fe',q1⟩,q2,q3,q4⟩,(hk0.of_nil (M:=fun b=>O b∨b=gm)).trans k⟩
  ·rw [if_neg he];refine (made_no (M0:=M0) (hW.keep hk0 fun _ h=>h.elim) hT (h.move (aA.refl Nil w) (fun _ _ h=>h.elim) fun _ _ h=>h.elim) hN hl hi hM (hM0.keep hk0) (hm.keepNil hk0) hx hs0 hs hn he).mono ?_;rintro e w' ⟨rfl,q1,k⟩;refine ⟨rfl,⟨O,⟨B,vn,vf,vp,bm,ne,fe,(hW.keep hk0 fun _ h=>h.elim).keep k fun b hb=>by rw [show b=gm from hb];exact hW.notM⟩,fun _ h=>h,fun _ h=>.inl h,q1.move (aA.refl Nil w') (fun _ _ h=>h.elim) fun b _ hb=>hb.elim id (hO b)⟩,(hk0.of_nil (M:=fun b=>O b∨b=gm)).trans (k.mono fun b hb=>.inr hb)⟩
end
theorem iclone_any {M:Nat→Prop} {w:World} {a:Option Addr} {n c:Nat} {l:List Int} (h:cB M w a n c l) (hl:l.length≤1000000000) :
  Calls prog 75 #[.slice a n c] w fun e w'=>∃v',e=.returned v'∧aL w' w.heap.size 3 1 v' (aM l)∧aA Nil w w':=by
 have hln:l.length=n:=SlOf.len h;rcases Nat.eq_zero_or_pos n with h0|h0
 ·obtain rfl:l=[]:=fZ1 (by omega);subst h0;cases a with
  | none=>
   refine (Tryz.slices_Clone_int_nil 0 c w).mono ?_;rintro e w' ⟨rfl,rfl⟩;exact⟨_,rfl,aL.nil _ _ _ _,aA.refl _ _⟩
  | some p=>
   refine (Tryz.slices_Clone_int_zero p c w).mono ?_;rintro e w' ⟨v',rfl,h1,_,h2⟩;exact⟨v',rfl,⟨.of h1,by simp [aM]⟩,aA.of_below h2 Nil⟩
 ·obtain ⟨b,off,rfl,_⟩:=aZ h (i:=0) h0;refine (Tryz.slices_Clone_int b off n c l w (by omega) (by omega) fun j hj=>?_).mono ?_
  ·obtain ⟨b',off',e,hc⟩:=aZ h (i:=j) (by omega);cases e;exact hc
  ·rintro e w' ⟨v',rfl,h1,_,h2⟩;refine ⟨v',rfl,⟨?_,fun x hx=>by obtain ⟨z,_,rfl⟩:=iZ2.1 hx;rfl⟩,aA.of_below h2 Nil⟩;rw [bQ,aJ,hln];rw [eZ1 (by omega)] at h1;exact .of h1
theorem length_keyTxt_kids {N:aS} (h:5≤N.kind) (h8:N.kind≤8) (hv:I64 N.var) (hk:∀x∈N.kids,I64 x):(bA N).length≤50+22*N.kids.length:=by
 unfold bA;have h1:=bJ (i:=N.kind) (by omega) (by omega);have h2:=bJ hv.1 hv.2;have h3:=length_kidsTxt N.kids hk;rw [if_neg (by omega)];simp only [aZ1,gZ1,gZ2];split
 ·simp only [aZ1,gZ1,gZ2];omega
 ·simp only [gZ2];omega
theorem len_kids {kind v:Int} {ks:List Int} (h:5≤kind) (h8:kind≤8) (hv:I64 v) (hk:∀x∈ks,I64 x) (hf:ks.length≤1000000):(bA ⟨kind,0,bH,v,ks⟩).length≤maxLen:=by
 have:=length_keyTxt_kids (N:=⟨kind,0,bH,v,ks⟩) h h8 hv hk;simp only at this;unfold maxLen;omega
theorem wee_zero:Wee bH:=⟨fun p hp=>by simp [bH] at hp,by simp [bH,nlen,bP],by simp [bH]⟩
theorem okNode_kids {kind v:Int} {ks:List Int} (h:5≤kind) (h8:kind≤8) (hv:I64 v) (hk:∀x∈ks,I64 x) (hf:ks.length≤16777216):OkNode ⟨kind,0,bH,v,ks⟩:=⟨⟨by simp;omega,h8⟩,hv,hk,hf,by simp [bH,nlen,bP,bulkP]⟩
section
variable {ks:List Int} {nodes limbs kind sp ov v k:Int} {w:World} {B0 gm g:Nat} {M0 O:Nat→Prop} {a:Option Addr}
theorem cB.ofRow {M:Nat→Prop} {w:World} {g:Nat} {E:TypeId} {l:List Int} {n:Nat} (h:aC w g E (l.map intV)) (hM:¬M g) (hn:l.length=n) (hl:l.length≤1000000000):cB M w (some ⟨g,0,none⟩) n n l:=by
 have ho:aL w g E 1 (.slice (some ⟨g,0,none⟩) n n) (aM l):=aL.ofRow (by rw [bQ];exact h) (fun c hc=>by obtain ⟨z,_,rfl⟩:=iZ2.1 hc;rfl) (by rw [aJ,hn]) (bZ2 _) (by unfold maxLen;omega);obtain ⟨a,c,e,h'⟩:=aL.sl (M:=M) (R:=RI) (d:=0) (xs:=l) ho (fun b hb hm=>by have e2:some g=some b:=hb;cases e2;exact hM hm) (by rw [aJ]) (fun i hi=>by rw [aJ] at hi;simp [RI,aM,List.getD,hi]);rw [aJ,hn] at e h';cases e;exact h'
def hasK (A:aF) (k:Int):Bool:=decide (0≤k∧k<(A.nodes.length:Int))
def dM (A:aF) (nodes limbs sp ov kind:Int) (ks:List Int):(Int × Int) × aF × (Int × Int):=
 if kind≠5∧kind≠6 then ((0,1),A,(sp,ov))
 else if ks.all (hasK A)=false then ((0,80),A,(sp,ov))
 else if (dE ks).length=1 then (((dE ks).getD 0 0,0),A,(sp,ov))
 else if 1<(dE ks).length then dF A nodes limbs sp ov ⟨kind,0,bH,0,dE ks⟩ []
 else ((if kind=5 then 1 else 0,0),A,(sp,ov))
def dR (A:aF) (nodes limbs sp ov kind v k:Int):(Int × Int) × aF × (Int × Int):=
 if kind≠7∧kind≠8 then ((0,1),A,(sp,ov))
 else if hasK A k=false then ((0,80),A,(sp,ov))
 else dF A nodes limbs sp ov ⟨kind,0,bH,v,[k]⟩ []
theorem joinM_bad {A:aF} (h:kind≠5∧kind≠6):dM A nodes limbs sp ov kind ks=((0,1),A,(sp,ov)):=by unfold dM;rw [if_pos h]
theorem joinM_no {A:aF} (h:kind=5∨kind=6) (h2:ks.all (hasK A)=false):dM A nodes limbs sp ov kind ks=((0,80),A,(sp,ov)):=by unfold dM;rw [if_neg (by omega),if_pos h2]
theorem joinM_one {A:aF} (h:kind=5∨kind=6) (h2:ks.all (hasK A)=true) (h3:(dE ks).length=1):dM A nodes limbs sp ov kind ks=(((dE ks).getD 0 0,0),A,(sp,ov)):=by unfold dM;rw [if_neg (by omega),if_neg (by rw [h2];simp),if_pos h3]
theorem joinM_many {A:aF} (h:kind=5∨kind=6) (h2:ks.all (hasK A)=true) (h3:1<(dE ks).length):dM A nodes limbs sp ov kind ks=dF A nodes limbs sp ov ⟨kind,0,bH,0,dE ks⟩ []:=by unfold dM;rw [if_neg (by omega),if_neg (by rw [h2];simp),if_neg (by omega),if_pos h3]
theorem joinM_nil {A:aF} (h:kind=5∨kind=6) (h2:ks.all (hasK A)=true) (h3:(dE ks).length=0):dM A nodes limbs sp ov kind ks=((if kind=5 then 1 else 0,0),A,(sp,ov)):=by unfold dM;rw [if_neg (by omega),if_neg (by rw [h2];simp),if_neg (by omega),if_neg (by omega)]
theorem bindM_bad {A:aF} (h:kind≠7∧kind≠8):dR A nodes limbs sp ov kind v k=((0,1),A,(sp,ov)):=by unfold dR;rw [if_pos h]
theorem bindM_no {A:aF} (h:kind=7∨kind=8) (h2:hasK A k=false):dR A nodes limbs sp ov kind v k=((0,80),A,(sp,ov)):=by unfold dR;rw [if_neg (by omega),if_pos h2]
theorem bindM_go {A:aF} (h:kind=7∨kind=8) (h2:hasK A k=true):dR A nodes limbs sp ov kind v k=dF A nodes limbs sp ov ⟨kind,0,bH,v,[k]⟩ []:=by unfold dR;rw [if_neg (by omega),if_neg (by rw [h2];simp)]
theorem ajoin_any {M1:Nat→Prop} {A:aF} {n c:Nat} (hA:bX O w g gm A) (hT:Tab B0 w) (hO:∀b,O b→M0 b) (hM0:MB M0 w) (hm:bK M0 w gm nodes limbs sp ov)
  (h:cB M1 w a n c ks) (hs0:0≤sp) (hs:sp≤nodes) (hn:nodes≤2000) (hcnt:A.cnt<1000000) (hlen:A.nodes.length≤1000000) (h2:2≤A.nodes.length) (hks:ks.length≤1000000) (hroom:(cO A ⟨kind,0,bH,0,dE ks⟩).length≤1000000000) :
  Calls prog 52 #[.pointer (some ⟨g,0,none⟩),.int .i64 kind,.slice a n c] w fun e w'=>cK O M0 w g gm nodes limbs (dM A nodes limbs sp ov kind ks) e w':=by
 have hln:ks.length=n:=SlOf.len h;have hcap:=SlOf.cap h;have hle:=SlOf.le h;obtain ⟨av,cv,v1,v2,v3,hbox⟩:=hA.box;have HA:=jJ (aI8 hA hT hO hM0 hm h hroom hbox);have HLN:=jJ hln;clear hA hT hO hM0 hm h hroom hbox;by_cases hk:kind≠5∧kind≠6
 ·have HK0:=jJ hk;have e5:(kind != 5)=true:=by simpa using hk.1
  have e6:(kind != 6)=true:=by simpa using hk.2
  go_enter func52,ntmps52
  go_wp2_with fail
  go_ret2
  rw [joinM_bad HK0.o];exact cK.none HA.o.1 HA.o.2.2.1 HA.o.r4.1 kOf
 ·have hk2:kind=5∨kind=6:=by omega
  clear hk;have HK2:=jJ hk2;rcases hk2 with rfl|rfl;all_goals
   go_enter func52,ntmps52
   go_wp2_with fail
   go_loopw [9,23] (fun _ i wr=>∃k:Nat,k≤n∧i=.int .i64 (k:Int)∧(ks.take k).all (hasK A)=true∧aA Nil w wr) (fun _ i _=>n-(intOf i).toNat)
   case atStart=>exact⟨0,aZ2 _,rfl,rfl,aA.refl _ _⟩
   case round=>
    obtain ⟨k,hk,rfl,hall,hkr⟩:=hrel;by_cases hlt:k<n
    ·have hkl:k<ks.length:=by rw [HLN.o];exact hlt
     obtain ⟨b,off,rfl,ck⟩:=aZ (HA.o.r5.1.keepNil hkr) hlt;have hsucc:(ks.take (k+1)).all (hasK A)=(hasK A (ks.getD k 0)):=by rw [take_snoc_getD hkl,List.all_append,hall];simp
     have hmem:ks.getD k 0∈ks:=by simp [List.getD,hkl]
     have j0:(0:Int)≤(k:Int):=by omega
     have j1:(k:Int)<(n:Int):=by omega
     obtain ⟨x,hx⟩:∃x,x=ks.getD k 0:=⟨_,rfl⟩;rw [←hx] at ck hsucc hmem;have HK:=jJ (aI3 hkr hsucc hmem);clear hkr hsucc hmem hx hall;cases hh:hasK A x
     ·have HH:=jJ hh;have e:decide (0≤x∧x<(A.nodes.length:Int))=false:=hh;clear hh;go_wp2_with (go_at_call 71;refine (ahas_any (i:=x) (HA.o.r7.keep HK.o.1 id)).mono ?_;rintro e' w1 ⟨rfl,hk1⟩;rw [e];have H1:=jJ hk1;clear hk1)
      go_ret2
      rw [joinM_no (by first|exact .inl rfl|exact .inr rfl) (by rw [List.all_eq_false];exact⟨x,HK.o.2.2,by rw [HH.o];simp⟩)];exact cK.none HA.o.1 HA.o.2.2.1 HA.o.r4.1 (HK.o.1.trans H1.o)
     ·have HH:=jJ hh;have e:decide (0≤x∧x<(A.nodes.length:Int))=true:=hh;clear hh;go_wp2_with (go_at_call 71;refine (ahas_any (i:=x) (HA.o.r7.keep HK.o.1 id)).mono ?_;rintro e' w1 ⟨rfl,hk1⟩;rw [e];have H1:=jJ hk1;clear hk1)
      go_roundw
      case rel=>exact⟨k+1,by omega,by go_num,by rw [HK.o.2.1,HH.o],HK.o.1.trans H1.o⟩
      case measure=>simp [intOf];omega
    ·obtain rfl:k=n:=by omega
     rw [eZ1 (by rw [HLN.o];exact bZ2 _)] at hall;have hmemk:∀x∈dE ks,0≤x∧x<(A.nodes.length:Int):=fun x hx=>by
      have h1:=kZ2.1 hall x (mem_neatF_sub hx);simpa [hasK] using h1
     have hnl:=length_neatF_le ks;have HK:=jJ (aI3 hkr hmemk hnl);have HAL:=jJ hall;clear hkr hmemk hnl hall;go_upto_region 10 with (go_at_call 75;refine (iclone_any (HA.o.r5.1.keepNil HK.o.1) (by omega)).mono ?_;rintro e w1 ⟨v1,rfl,ho1,hk1⟩;obtain ⟨a1,c1,rfl⟩:=ho1.isSlice;have H1:=jJ (aI ho1 hk1);clear ho1 hk1)
     go_upto_region 11 with (go_at_call 72;refine (isort_own H1.o.1 (by omega)).mono ?_;rintro e w2 ⟨rfl,ho2,hk2⟩;have H2:=jJ (aI ho2 (H1.o.2.trans' hk2 (fun b hb=>.inr (H1.o.1.lt b hb).1)));clear ho2 hk2)
     go_upto_region 12 with (go_at_call 99;refine (icompact_own H2.o.1 (by rw [length_sortI];omega)).mono ?_;rintro e w3 ⟨v3,rfl,ho3,-,hk3⟩;obtain ⟨a3,c3,rfl⟩:=ho3.isSlice;have H3:=jJ (aI ho3 (HK.o.1.trans (H2.o.2.trans' hk3 (fun b hb=>.inr (H2.o.1.lt b hb).1))));clear ho3 hk3)
     have hl3:(aM (Lib.compact (sortI ks))).length=(dE ks).length:=aJ _;have ho3:aL w3 wr.heap.size 3 1 (.slice a3 (aM (Lib.compact (sortI ks))).length c3) (aM (dE ks)):=H3.o.1;rw [hl3] at ho3⊢;obtain ⟨m,hm⟩:∃m,m=(dE ks).length:=⟨_,rfl⟩;rw [←hm] at ho3⊢;have hmk:m≤ks.length:=by rw [hm];exact HK.o.2.2
     have HO:=jJ (aI ho3 hm);by_cases hm1:m=1
     ·have e1:((m:Int)==1)=true:=by simp;omega
      obtain ⟨g3,rest,rfl,hrow,-⟩:=ho3.opens (by rw [aJ,←hm]) (by omega);have c0:w3.cell? ⟨g3,0,none⟩=some (.int .i64 ((dE ks).getD 0 0)):=by
       have h0:0<(dE ks).length:=by omega
       have:=hrow.el ho3.sz (i:=0) (j:=0) (by rw [aJ];exact h0) (by omega);rw [this];simp [aM,List.getD,h0]
      have j0:(0:Int)<(m:Int):=by omega
      have j1:m≤1:=by omega
      have hg3:=hrow.lt;clear ho3 hrow hm hl3;have hm1':(dE ks).length=1:=HO.o.2.symm.trans hm1;have HM1:=jJ hm1';clear hm1';subst hm1;obtain ⟨y,hy⟩:∃y,y=(dE ks).getD 0 0:=⟨_,rfl⟩;rw [←hy] at c0;have HY:=jJ hy;clear hy;go_wp2_with fail
      go_ret2
      rw [joinM_one (by first|exact .inl rfl|exact .inr rfl) HAL.o HM1.o,←HY.o];exact cK.none HA.o.1 HA.o.2.2.1 HA.o.r4.1 H3.o.2
     ·have e1:((m:Int)==1)=false:=by simp;omega
      by_cases hm2:1<m
      ·have e2:decide ((m:Int) > 1)=true:=by simp;omega
       clear ho3 hm hl3;go_wp2_with (go_at_call 89;obtain ⟨a4,c4,e4,h4⟩:=aL.sl (M:=Old w) (R:=RI) (d:=0) (xs:=dE ks) HO.o.1 (fun b hb ho=>by have h1:=(HO.o.1.lt b hb).1;have h2:=HK.o.1.size;have h3:b<w.heap.size:=ho;omega) (by rw [aJ]) (fun i hi=>by rw [aJ] at hi;simp [RI,aM,List.getD,hi]);rw [e4];go_loud (refine (amade_any (M:=Nil) HA.o.1 H3.o.2 (HA.o.2.1.keepNil H3.o.2) HA.o.2.2.1 HA.o.2.2.2.1 HA.o.r4.1 (⟨zn_zero _ _,dZ.zero,h4⟩:NodeAt (Old w) w3 _ _ _ _ _ _ _ _ _ _ _ _ _ _ ⟨_,0,bH,0,dE ks⟩) (okNode_kids (by decide) (by decide) ⟨by decide,by decide⟩ (fun x hx=>by have:=HK.o.2.1 x hx;unfold I64;omega) (by have:=HK.o.2.2;omega)) (len_kids (by decide) (by decide) ⟨by decide,by decide⟩ (fun x hx=>by have:=HK.o.2.1 x hx;unfold I64;omega) (by have:=HK.o.2.2;omega)) (MB.nil _) SlOf.nil hs0 hs hn hcnt hlen h2 wee_zero (fun x hx=>by have:=HK.o.2.1 x hx;omega) HA.o.r6.1).mono ?_);rintro e w4 ⟨rfl,hst⟩;have H4:=jJ hst;clear hst)
       go_ret2
       rw [joinM_many (by first|exact .inl rfl|exact .inr rfl) HAL.o (by rw [←HO.o.2];exact hm2)];exact⟨rfl,H4.o⟩
      ·have e2:decide ((m:Int) > 1)=false:=by simp;omega
       clear ho3 hm hl3;go_wp2_with fail
       go_ret2
       rw [joinM_nil (by first|exact .inl rfl|exact .inr rfl) HAL.o (by rw [←HO.o.2];omega)];exact cK.none HA.o.1 HA.o.2.2.1 HA.o.r4.1 H3.o.2
theorem abind_any {A:aF} (hA:bX O w g gm A) (hT:Tab B0 w) (hO:∀b,O b→M0 b) (hM0:MB M0 w) (hm:bK M0 w gm nodes limbs sp ov)
  (hv:I64 v) (hs0:0≤sp) (hs:sp≤nodes) (hn:nodes≤2000) (hcnt:A.cnt<1000000) (hlen:A.nodes.length≤1000000) (h2:2≤A.nodes.length) (hroom:(cO A ⟨kind,0,bH,v,[k]⟩).length≤1000000000) :
  Calls prog 80 #[.pointer (some ⟨g,0,none⟩),.int .i64 kind,.int .i64 v,.int .i64 k] w fun e w'=>cK O M0 w g gm nodes limbs (dR A nodes limbs sp ov kind v k) e w':=by
 obtain ⟨av,cv,v1,v2,v3,hbox⟩:=hA.box;have HA:=jJ (aI8 hA hT hO hM0 hm hroom hbox hv);clear hA hT hO hM0 hm hroom hbox hv;by_cases hk:kind≠7∧kind≠8
 ·have HK0:=jJ hk;have e5:(kind != 7)=true:=by simpa using hk.1
  have e6:(kind != 8)=true:=by simpa using hk.2
  go_enter func80,ntmps80
  go_wp2_with fail
  go_ret2
  rw [bindM_bad HK0.o];exact cK.none HA.o.1 HA.o.2.2.1 HA.o.r4.1 kOf
 ·have hk2:kind=7∨kind=8:=by omega
  clear hk;cases hh:hasK A k
  ·have HH:=jJ hh;have e:decide (0≤k∧k<(A.nodes.length:Int))=false:=hh;clear hh;rcases hk2 with rfl|rfl;all_goals
    go_enter func80,ntmps80
    go_wp2_with (go_at_call 71;refine (ahas_any (i:=k) HA.o.r6.1).mono ?_;rintro e' w1 ⟨rfl,hk1⟩;rw [e];have H1:=jJ hk1;clear hk1)
    go_ret2
    rw [bindM_no (by first|exact .inl rfl|exact .inr rfl) HH.o];exact cK.none HA.o.1 HA.o.2.2.1 HA.o.r4.1 H1.o
  ·have HH:=jJ hh;have e:decide (0≤k∧k<(A.nodes.length:Int))=true:=hh;clear hh;rcases hk2 with rfl|rfl;all_goals
    go_enter func80,ntmps80
    go_wp2_with (first|(go_at_call 71;refine (ahas_any (i:=k) HA.o.r6.1).mono ?_;rintro e' w1 ⟨rfl,hk1⟩;rw [e];have H1:=jJ hk1;clear hk1)|(go_at_call 89;have kk:=H1.o.trans (c:=w1.alloc (.cells #[.int .i64 k] 3)) kOf;have hkr:0≤k∧k<(A.nodes.length:Int):=(by have:=HH.o;simpa [hasK] using this);go_loud (refine (amade_any (M:=Nil) HA.o.1 kk (HA.o.2.1.keepNil kk) HA.o.2.2.1 HA.o.2.2.2.1 HA.o.r4.1 (⟨zn_zero _ _,dZ.zero,cB.ofRow (l:=[k]) aC.alloc (fun ho=>by have h3:w1.heap.size<w.heap.size:=ho;have:=H1.o.size;omega) rfl (by simp)⟩:NodeAt (Old w) (w1.alloc (.cells #[.int .i64 k] 3)) _ _ _ _ _ _ _ _ _ _ _ _ _ _ ⟨_,0,bH,v,[k]⟩) (okNode_kids (by decide) (by decide) HA.o.r7 (fun x hx=>by rw [dZ1.1 hx];unfold I64;omega) (by simp)) (len_kids (by decide) (by decide) HA.o.r7 (fun x hx=>by rw [dZ1.1 hx];unfold I64;omega) (by simp)) (MB.nil _) SlOf.nil hs0 hs hn hcnt hlen h2 wee_zero (fun x hx=>by rw [dZ1.1 hx];omega) HA.o.r5.1).mono ?_);rintro e w4 ⟨rfl,hst⟩;have H4:=jJ hst;clear hst))
    go_ret2
    rw [bindM_go (by first|exact .inl rfl|exact .inr rfl) HH.o];exact⟨rfl,H4.o⟩
end
def nodeB (B:bB):aS:=⟨B.kind,B.d,B.t,0,[]⟩
def numsB (B:bB):List Int:=[B.d,B.t.k]++B.t.parts.map (·.2)
structure OkB (A:aF) (B:bB):Prop where
 ok:OkNode (nodeB B)
 len:(bA (nodeB B)).length≤maxLen
 wee:Wee B.t
 wd:nlen B.d.natAbs≤536870912
 room:(cO A (nodeB B)).length≤1000000000
theorem numsB_small {A:aF} {B:bB} (h:OkB A B):∀z∈numsB B,nlen z.natAbs≤536870912:=fun z hz=>by
 unfold numsB at hz;rcases jZ1.1 hz with hz|hz
 ·rcases mZ1.1 hz with rfl|hz
  ·exact h.wd
  ·rw [dZ1.1 hz];exact h.wee.k
 ·obtain ⟨p,hp,rfl⟩:=iZ2.1 hz;exact h.wee.parts p hp
section
variable {nodes limbs sp ov:Int} {B:bB} {w:World} {l:aT}
def atomR (A:aF) (nodes limbs sp ov:Int) (r:Int × bB):(Int × Int) × aF × (Int × Int):=
 if r.1≠0 then ((0,r.1),A,(sp,ov))
 else if r.2.kind≤1 then ((r.2.kind,0),A,(sp,ov))
 else dF A nodes limbs sp ov (nodeB r.2) ((numsB r.2).map intX)
def cZ (A:aF) (nodes limbs sp ov:Int) (X:bB):(Int × Int) × aF × (Int × Int):=atomR A nodes limbs sp ov (bV X)
theorem atomR_err {A:aF} {e:Int} (h:e≠0):atomR A nodes limbs sp ov (e,B)=((0,e),A,(sp,ov)):=if_pos h
theorem atomR_const {A:aF} (h:B.kind≤1):atomR A nodes limbs sp ov (0,B)=((B.kind,0),A,(sp,ov)):=by unfold atomR;rw [if_neg (by simp),if_pos h]
theorem atomR_go {A:aF} (h:¬B.kind≤1):atomR A nodes limbs sp ov (0,B)=dF A nodes limbs sp ov (nodeB B) ((numsB B).map intX):=by unfold atomR;rw [if_neg (by simp),if_neg h]
theorem aatom_any {B0:Nat} {O M0 M1 M2:Nat→Prop} {g gm:Nat} {A:aF} {gd gk:Bool} {ad ap ak:Option Addr} {nd cd np cp nk ck:Nat} {k d z:Int} (hA:bX O w g gm A) (hT:Tab B0 w) (hO:∀b,O b→M0 b) (hM0:MB M0 w) (hm:bK M0 w gm nodes limbs sp ov)
  (hd:ZAt Nil w gd ad nd cd d) (h:bU M1 M2 w ap np cp l) (hk:ZAt Nil w gk ak nk ck z) (h1:np≤16777216) (h2':nk≤1073741824) (hw:Wee (bR ⟨l,z⟩)) (hwd:nlen d.natAbs≤536870912) (hs0:0≤sp) (hs:sp≤nodes) (hn:nodes≤2000) (hcnt:A.cnt<1000000) (hlen:A.nodes.length≤1000000) (h2:2≤A.nodes.length) (hok:2≤(bV ⟨k,d,⟨l,z⟩⟩).2.kind→OkB A (bV ⟨k,d,⟨l,z⟩⟩).2) :
  Calls prog 37 #[.pointer (some ⟨g,0,none⟩),.agg #[.int .i64 k,.bool gd,.slice ad nd cd,.slice ap np cp,.bool gk,.slice ak nk ck]] w fun e w'=>cK O M0 w g gm nodes limbs (cZ A nodes limbs sp ov ⟨k,d,⟨l,z⟩⟩) e w':=by
 obtain ⟨i1,hi1⟩:=info_parts info_Int;have HI:=jJ hi1;unfold cZ;have k0':aA Nil w (w.alloc (.cells #[.int .i64 k,.bool gd,.slice ad nd cd,.slice ap np cp,.bool gk,.slice ak nk ck] 82)):=kOf;have hnorm:=anorm_any (k:=k) (M:=Old (w.alloc (.cells #[.int .i64 k,.bool gd,.slice ad nd cd,.slice ap np cp,.bool gk,.slice ak nk ck] 82))) (MB.old _) (hd.keepNil k0') (h.keepNil k0') (hk.keepNil k0') h1 h2' hw hwd;obtain ⟨r,hr⟩:∃r,r=bV ⟨k,d,⟨l,z⟩⟩:=⟨_,rfl⟩;rw [←hr] at hnorm hok⊢;clear hr;obtain ⟨er,B⟩:=r;simp only at hok⊢;have HA:=jJ (aI7 hA hT hO hM0 hm hok hnorm);clear hA hT hO hM0 hm hd h hk hok hnorm hi1 hw;go_enter func37,ntmps37
 go_upto_region 1 with (fail)
 have HN:=HA.o.r6;obtain ⟨w0,e_1,k0,r0⟩:=bx1 w 82 [.int .i64 k,.bool gd,.slice ad nd cd,.slice ap np cp,.bool gk,.slice ak nk ck];rw [e_1] at HN⊢;clear e_1;obtain ⟨c0,c1,c2,c3,c4,c5⟩:=r0.cells6;have lr0:=r0.lt;have HN':=jJ HN;have H0:=jJ (aI k0 r0);clear k0 r0 HN k0';go_upto_region 4 with (go_at_call 88;refine HN'.o.mono ?_;rintro e w1 ⟨v,rfl,⟨gd',ad',nd',cd',ap',np',cp',gk',ak',nk',ck',rfl,hv⟩,hk1⟩;have r1:=H0.o.2.keep hk1 id;obtain ⟨z0,z1,z2,z3,z4,z5⟩:=r1.cells6;obtain ⟨y0,y1,y2,y3,y4,y5⟩:=r1.marks6;have H1:=jJ (aI3 hv hk1 r1);clear hv hk1 r1)
 have r6:=H1.o.2.2.six (.int .i64 B.kind) (.bool gd') (.slice ad' nd' cd') (.slice ap' np' cp') (.bool gk') (.slice ak' nk' ck');have k6:=aA.six (w:=w1) (g:=w.heap.size) (.int .i64 B.kind) (.bool gd') (.slice ad' nd' cd') (.slice ap' np' cp') (.bool gk') (.slice ak' nk' ck');have b6:=H1.o.1.out (M:=Old w) lr0 (fun b hb=>cZ1 hb H0.o.1.size) k6;have hk2:aA Nil w _:=(H0.o.1.trans H1.o.2.1).own (bZ2 _) k6;generalize (((((w1.setCell ⟨w.heap.size,0,none⟩ (.int .i64 B.kind)).setCell ⟨w.heap.size,1,none⟩ (.bool gd')).setCell ⟨w.heap.size,2,none⟩ (.slice ad' nd' cd')).setCell ⟨w.heap.size,3,none⟩ (.slice ap' np' cp')).setCell ⟨w.heap.size,4,none⟩ (.bool gk')).setCell ⟨w.heap.size,5,none⟩ (.slice ak' nk' ck')=w2 at *
 obtain ⟨x0,x1,x2,x3,x4,x5⟩:=r6.cells6;have l2:=r6.lt;have H2:=jJ (aI3 b6 hk2 r6);clear z0 z1 z2 z3 z4 z5 y0 y1 y2 y3 y4 y5 c0 c1 c2 c3 c4 c5 b6 k6 hk2 r6;by_cases he:er=0
 ·subst he;by_cases hb:B.kind≤1
  ·have e1:decide (B.kind≤1)=true:=decide_eq_true hb;have HB:=jJ hb;clear hb;go_wp2_with fail
   go_ret2
   rw [atomR_const HB.o];exact cK.none HA.o.1 HA.o.2.2.1 HA.o.r4.1 H2.o.2.1
  ·have e1:decide (B.kind≤1)=false:=decide_eq_false hb;have hokB:=HA.o.r5.1 (by omega);have HB:=jJ (aI hb hokB);clear hb hokB;go_upto_region 9 with (fail)
   have r3:=aC.alloc (w:=w2) (E:=25) (xs:=[.bool gd',.slice ad' nd' cd',.bool gk',.slice ak' nk' ck']);have k3:aA Nil w2 (w2.alloc (.cells #[.bool gd',.slice ad' nd' cd',.bool gk',.slice ak' nk' ck'] 25)):=kOf;change aC (w2.alloc (.cells #[.bool gd',.slice ad' nd' cd',.bool gk',.slice ak' nk' ck'] 25)) _ _ _ at r3;generalize w2.alloc (.cells #[.bool gd',.slice ad' nd' cd',.bool gk',.slice ak' nk' ck'] 25)=w3 at *
   have row3:=H2.o.2.2.keep k3 id;obtain ⟨y0,y1,y2,y3,y4,y5⟩:=row3.cells6;have hT2:=H2.o.1.2;have hnp:np'=B.t.parts.length:=(SlOf.len hT2.1).symm;have hcap:=SlOf.cap hT2.1;have hle:=SlOf.le hT2.1;have hfew:=HB.o.2.wee.few;have hnpb:np'≤16777216:=by omega
   have ho3:aL w3 w2.heap.size 25 2 (.slice (some ⟨w2.heap.size,0,none⟩) 2 2) [[.bool gd',.slice ad' nd' cd'],[.bool gk',.slice ak' nk' ck']]:=aL.ofRow r3 (by simp) rfl (bZ2 _) (by decide);have hs3:=k3.size;have hn0:numsB B=B.d::B.t.k::B.t.parts.map (·.2):=rfl;have H3:=jJ (aI5 ho3 k3 row3 hnp hn0);clear x0 x1 x2 x3 x4 x5 r3 k3 row3 hT2 hnp ho3 hn0;go_wp2_with fail
   go_loopw [7,9,35] (fun v _ iv wr=>∃(j:Nat) (va:Option Addr) (vc:Nat) (els:List (List Value)),j≤np'∧iv=.int .i64 (j:Int)∧v=.slice va (j+2) vc∧els.length=j+2∧aL wr w2.heap.size 25 2 (.slice va (j+2) vc) els∧(∀i,i<j+2→RZ (Old w) w2 (els.getD i []) ((numsB B).getD i 0))∧aA Nil w2 wr) (fun _ _ iv _=>np'-(intOf iv).toNat)
   case atStart=>
    refine ⟨0,_,_,_,aZ2 _,rfl,rfl,rfl,H3.o.1,fun i hi=>?_,H3.o.2.1⟩;rcases (show i=0∨i=1 by omega) with rfl|rfl
    ·exact⟨_,_,_,_,rfl,H2.o.1.1⟩
    ·exact⟨_,_,_,_,rfl,H2.o.1.2.2⟩
   case round=>
    obtain ⟨j,va,vc,els,hj,rfl,rfl,hel,hown,hr,hkr⟩:=hrel;by_cases hlt:j<np'
    ·have j0:(0:Int)≤(j:Int):=by omega
     have j1:(j:Int)<(np':Int):=by omega
     obtain ⟨b',off',g',a'',n'',c'',hae,hb',-,x0',x1',x2',hzz',-,-⟩:=H2.o.1.2.1.at hlt;subst hae;have z0:=hkr.cellE hb' id x0';have z1:=hkr.cellE hb' id x1';have z2:=hkr.cellE hb' id x2';have hbr:b'<wr.heap.size:=cZ1 hb' hkr.size;have hget:(numsB B).getD (j+2) 0=(pth B.t.parts j).2:=by
      have:j<B.t.parts.length:=by have:=H3.o.2.2.2.1;omega
      simp [numsB,List.getD,pth,this]
     have hws:w2.heap.size≤wr.heap.size:=hkr.size;have HC:=jJ (aI6 hel hown hr hkr hzz' hget);clear hel hown hr hkr hzz' hget x0' x1' x2';generalize (pth B.t.parts j).1=v at *
     go_wp2_with (at_builtin;go_loud (refine cC _ rfl (.tmp 39) (.tmp 42) 109 rfl w2.heap.size 25 i1 (.agg #[.bool false,.slice none 0 0]) 2 32 underlying109 HI.o.1 HI.o.2.1 HI.o.2.2.1 HI.o.2.2.2 rfl (by decide) (.slice va (j+2) vc) els rfl ((HC.o.2.1.keepNil (w':=wr.alloc (.cells #[.int .i64 v,.bool g',.slice a'' n'' c''] 96)) kOf).keepNil kOf) ⟨wr.heap.size+1,0,none⟩ 1 1 [[.bool g',.slice a'' n'' c'']] rfl rfl (by simp) (alloc_news1 _ _ _ _) (by simp [Value.oneCell']) (by rw [HC.o.1];omega) (by rw [HC.o.1];omega) (by simp;omega) ?_);intro v' w4 ho hk2 hf2 _;obtain ⟨a7,c7,rfl⟩:=ho.isSlice;have e7:(els++[[Value.bool g',.slice a'' n'' c'']]).length=j+1+2:=(by have q:=HC.o.1;have q2:(els++[[Value.bool g',.slice a'' n'' c'']]).length=els.length+1:=aZ1;omega);rw [e7] at ho⊢;have HO:=jJ (aI ho hk2);clear ho hk2 hf2 e7)
     go_roundw
     case rel=>
      refine ⟨j+1,a7,c7,_,by omega,by go_num,rfl,by have q:=HC.o.1;have q2:(els++[[Value.bool g',.slice a'' n'' c'']]).length=els.length+1:=aZ1;omega,HO.o.1,fun i hi=>?_,((HC.o.2.2.2.1.trans (c:=wr.alloc (.cells #[.int .i64 v,.bool g',.slice a'' n'' c''] 96)) kOf).trans kOf).newer HO.o.2 (fun b hb=>(HC.o.2.1.lt b hb).1)⟩;rcases Nat.lt_or_ge i (j+2) with hik|hik
      ·rw [getD_snoc_lt _ _ _ (by rw [HC.o.1];exact hik)];exact HC.o.2.2.1 i hik
      ·obtain rfl:i=j+2:=by omega
       have e8:(els++[[Value.bool g',.slice a'' n'' c'']]).getD els.length []=[.bool g',.slice a'' n'' c'']:=getD_snoc_eq _ _ _;rw [HC.o.1] at e8;rw [e8,HC.o.r5];exact⟨_,_,_,_,rfl,HC.o.r4.1⟩
     case measure=>simp [intOf];omega
    ·obtain rfl:np'=j:=by omega
     have rowr:=H2.o.2.2.keep hkr id;obtain ⟨x0,x1,x2,x3,x4,x5⟩:=rowr.cells6;have lr:=rowr.lt;have hin:=ints_of (M:=Old w) (w:=wr) (zs:=numsB B) hown (fun b hb ho=>by have h1:=(hown.lt b hb).1;have h2:=H2.o.2.1.size;have h3:b<w.heap.size:=ho;omega) (by rw [hel];have:=H3.o.2.2.2.1;simp [numsB];omega) (fun i hi=>by
      rw [hel] at hi;obtain ⟨g5,a5,n5,c5,q1,q2⟩:=hr i hi;refine ⟨g5,a5,n5,c5,q1,q2.keepNil hkr,?_⟩;have:=numsB_small HB.o.2 ((numsB B).getD i 0) (by
       have:i<(numsB B).length:=by have:=H3.o.2.2.2.1;simp [numsB];omega
       simp [List.getD,this])
      omega)
     have HC:=jJ (aI hkr hin);clear hel hown hr hkr hin rowr;go_wp2_with (go_at_call 89;obtain ⟨a5,c5,e5,h5⟩:=HC.o.2;rw [e5];go_loud (refine (amade_any (N:=nodeB B) HA.o.1 (H2.o.2.1.trans HC.o.1) (HA.o.2.1.keepNil (H2.o.2.1.trans HC.o.1)) HA.o.2.2.1 HA.o.2.2.2.1 HA.o.r4.1 (⟨H2.o.1.1.keepNil HC.o.1,H2.o.1.2.keepNil HC.o.1,SlOf.nil⟩:NodeAt (Old w) wr _ _ _ _ _ _ _ _ _ _ _ _ _ _ (nodeB B)) HB.o.2.ok HB.o.2.len (MB.oldLe (H2.o.2.1.trans HC.o.1).size) h5 hs0 hs hn hcnt hlen h2 HB.o.2.wee (fun x hx=>by cases hx) HB.o.2.room).mono ?_);rintro e w4 ⟨rfl,hst⟩;have H4:=jJ hst;clear hst)
     go_ret2
     rw [atomR_go (B:=B) (by have h9:=HB.o.1;omega)];exact⟨rfl,H4.o⟩
 ·have e1:(er != 0)=true:=by simpa using he
  have HE:=jJ he;clear he;go_wp2_with fail
  go_ret2
  rw [atomR_err HE.o];exact cK.none HA.o.1 HA.o.2.2.1 HA.o.r4.1 H2.o.2.1
end
theorem nlen0:nlen 0=0:=by simp [nlen,bP]
end Go.Proofs.Q
