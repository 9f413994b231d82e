/- What simp answers to the laws' awake: plain laws. -/
import Derived.Test.YtgeklmkfjkenlaaGreatDoorNSimpB
set_option linter.unusedSimpArgs false
set_option linter.unusedVariables false
set_option maxRecDepth 100000
set_option maxHeartbeats 4000000
namespace Go.Proofs.Q
open Go.RowKit Tryz
def wX:cI:=⟨2,0,⟨[(0,1)],0⟩⟩
def wN:aT:=⟨2,0,⟨[(0,1)],0⟩,0,[]⟩
def wY:cI:=⟨2,0,⟨[(0,-1)],1⟩⟩
def wM:aT:=⟨2,0,⟨[(0,-1)],1⟩,0,[]⟩
theorem norm_wX:bT wX=(0,wX):=by rfl
theorem norm_wY:bT wY=(0,wY):=by rfl
theorem neg_wX:negV wX=wY:=by rfl
theorem form_wM:FormN wM:=⟨by decide,by decide,fun _=>⟨rfl,rfl⟩,fun h=>absurd h (by decide),fun h=>absurd h (by decide)⟩
theorem small_wX:SmallX [0] wX:=⟨⟨by decide,fun p hp=>by rw [dZ1.1 hp];simp [nlen1],by simp [wX,nlen0],fun p hp=>by rw [dZ1.1 hp];simp⟩,by simp [wX,nlen0]⟩
def w1A:aF:=addA startA wN
def w2A:aF:=addA w1A wM
theorem great_wX:great 8 ((numsB wX).map intX)=false:=by
 rw [great_intX];simp [numsB,wX,nlen0,nlen1]
theorem great_wY:great 8 ((numsB wY).map intX)=false:=by
 rw [great_intX];simp [numsB,wY,nlen0,nlen1]
theorem atom_wX:atomM startA 2000 8 0 0 wX=((2,0),w1A,(1,0)):=by
 unfold atomM;rw [norm_wX,atomR_go (by decide)];unfold madeM;rw [show keyF startA.nodes=fun _=>none from keyF_start];have hn:dL 2000 8 0 0 ((numsB wX).map intX)=(1,0,0):=by
  unfold dL nodeS;rw [if_pos rfl,great_wX];rfl
 simp only [];rw [hn];rfl
theorem simp_w1:aZ [0] 2000 8 w1A 1:=by
 have h:=(atomM_came (V:=[0]) (nodes:=2000) (limbs:=8) (sp:=0) (ov:=0) small_wX (aZ.begin (by decide) (by decide))).ok;rw [atom_wX] at h;exact h
theorem atom_wY:atomM w1A 2000 8 1 0 wY=((3,0),w2A,(2,0)):=by
 unfold atomM;rw [norm_wY,atomR_go (by decide)];have hk:keyF w1A.nodes (bA (nodeB wY))=none:=(simp_w1.inv.once.find_none form_wM).2 fun i h2 hi e=>by
  have hi':i=2:=by simp [w1A,addA,startA] at hi;omega
  subst hi';have:wN.t.k=wM.t.k:=by rw [←e];rfl
  exact absurd this (by decide)
 unfold madeM;rw [hk];have hn:dL 2000 8 1 0 ((numsB wY).map intX)=(2,0,0):=by
  unfold dL nodeS;rw [if_pos rfl,great_wY];rfl
 simp only [];rw [hn];rfl
theorem neg_w:cA (negT 2000 8) w1A 1 0 2=((3,0),w2A,(2,0)):=by
 have h1:cX (negT 2000 8) 3 ⟨fun _=>none,w1A,1,0⟩ 2=((negT 2000 8 w1A 1 0 2 []).1,⟨putC (fun _=>none) 2 (negT 2000 8 w1A 1 0 2 []).1.1,(negT 2000 8 w1A 1 0 2 []).2.1,(negT 2000 8 w1A 1 0 2 []).2.2.1,(negT 2000 8 w1A 1 0 2 []).2.2.2⟩):=walkM_turn (T:=negT 2000 8) (f:=2) (s:=⟨fun _=>none,w1A,1,0⟩) (t:=⟨fun _=>none,w1A,1,0⟩) (x:=2) (out:=[]) rfl rfl;have h2:negT 2000 8 w1A 1 0 2 []=((3,0),w2A,(2,0)):=by
  have:negT 2000 8 w1A 1 0 2 []=atomM w1A 2000 8 1 0 (negV wX):=by
   unfold negT;rw [if_neg (by decide),if_neg (by decide),if_neg (by decide),if_neg (by decide)];rfl
  rw [this,neg_wX,atom_wY]
 rw [h2] at h1;unfold cA;rw [if_neg (by decide),show (2:Int).toNat+1=3 from rfl,h1]
theorem simp_w2:aZ [0] 2000 8 w2A 2:=by
 have h:=(throughM_ok (negT_ok (V:=[0]) (nodes:=2000) (limbs:=8) (by decide) (by decide) (by decide)) (A:=w1A) (sp:=1) (ov:=0) (id:=2) simp_w1).1;rw [neg_w] at h;exact h
theorem neat_w:cU [2,3]=[2,3]:=by
 have hs:sortI [2,3]=[2,3]:=by unfold sortI;exact List.mergeSort_of_pairwise (by simp)
 unfold cU;rw [hs];rfl
theorem flat_w (kind:Int) (h:kind=5∨kind=6):flatL w2A.nodes kind [2,3]=[2,3]:=by
 have h2:flatX w2A.nodes kind 2=[2]:=flatX_leaf (by show (2:Int)≠kind;omega);have h3:flatX w2A.nodes kind 3=[3]:=flatX_leaf (by show (2:Int)≠kind;omega);unfold flatL;simp [h2,h3]
theorem open_w (kind:Int) (h:kind=5∨kind=6):openM w2A kind [2,3]=[2,3]:=by unfold openM;rw [flat_w kind h,neat_w]
theorem nd_w2:ndA w2A 2=wN:=rfl
theorem nd_w3:ndA w2A 3=wM:=rfl
theorem neg_1:neg (1:Int)=false:=by simp [neg]
theorem neg_m1:neg (-1:Int)=true:=by simp [neg]
theorem like_w:likeP (0,-1) (0,1) true=true:=by simp [likeP,neg_1,neg_m1]
theorem unlike_w:likeP (0,1) (0,-1) false=false:=by simp [likeP,neg_1,neg_m1]
theorem unlike_w2:likeP (0,-1) (0,1) false=false:=by simp [likeP,neg_1,neg_m1]
theorem alike_w:alikeM wM.t.parts wN.t.parts true=true:=by
 have:alikeM wM.t.parts wN.t.parts true=(true&&(likeP (0,-1) (0,1) true&&true)):=rfl;rw [this,like_w];rfl
theorem unalike_w:alikeM wN.t.parts wM.t.parts false=false:=by
 have:alikeM wN.t.parts wM.t.parts false=(true&&(likeP (0,1) (0,-1) false&&true)):=rfl;rw [this,unlike_w];rfl
theorem unalike_w2:alikeM wM.t.parts wN.t.parts false=false:=by
 have:alikeM wM.t.parts wN.t.parts false=(true&&(likeP (0,-1) (0,1) false&&true)):=rfl;rw [this,unlike_w2];rfl
theorem weak_w (kind:Int):weakerM kind wN wM=false∧weakerM kind wM wN=false:=by
 unfold weakerM;rw [if_pos (.inr (.inr unalike_w)),if_pos (.inr (.inr unalike_w2))];exact⟨rfl,rfl⟩
theorem weak_same (kind:Int) (x:aT):weakerM kind x x=false:=by
 unfold weakerM;split
 ·rfl
 ·simp
theorem kept_w (kind:Int):keptM w2A kind [2,3]=[2,3]:=by
 have h2:weakIn w2A kind [2,3] 2=false:=by simp [weakIn,nd_w2,nd_w3,weak_same,(weak_w kind).1]
 have h3:weakIn w2A kind [2,3] 3=false:=by simp [weakIn,nd_w2,nd_w3,weak_same,(weak_w kind).2]
 simp [keptM,h2,h3]
theorem clash_w5:clashM 5 wM wN=true:=by
 unfold clashM;rw [if_pos ⟨rfl,rfl⟩,alike_w,if_neg (by simp)];rfl
theorem clash_w6:clashM 6 wM wN=true:=by
 unfold clashM;rw [if_pos ⟨rfl,rfl⟩,alike_w,if_neg (by simp)];rfl
theorem clashTo_w (kind:Int) (h:clashM kind wM wN=true):clashTo w2A kind [2,3] 2=true:=
 clashTo_hit (n:=1) (cZ3.2 ⟨2,by simp,h⟩) (by decide)
theorem and_w:cK w2A 2000 8 2 0 5 [2,3]=((0,0),w2A,(2,0)):=by
 have hr:restM w2A 5 [2,3]=[2,3]:=by unfold restM;rw [open_w 5 (.inl rfl)];rfl
 rw [sjoinM_clash (by decide) (by rw [open_w 5 (.inl rfl)];decide) (by rw [hr,kept_w];exact clashTo_w 5 clash_w5)];rfl
theorem or_w:cK w2A 2000 8 2 0 6 [2,3]=((1,0),w2A,(2,0)):=by
 have hr:restM w2A 6 [2,3]=[2,3]:=by unfold restM;rw [open_w 6 (.inr rfl)];rfl
 rw [sjoinM_clash (by decide) (by rw [open_w 6 (.inr rfl)];decide) (by rw [hr,kept_w];exact clashTo_w 6 clash_w6)];rfl
theorem again_w:cA (cY 2000 8) w2A 2 0 2=((2,0),w2A,(2,0)):=by
 have h1:cX (cY 2000 8) 3 ⟨fun _=>none,w2A,2,0⟩ 2=((cY 2000 8 w2A 2 0 2 []).1,⟨putC (fun _=>none) 2 (cY 2000 8 w2A 2 0 2 []).1.1,(cY 2000 8 w2A 2 0 2 []).2.1,(cY 2000 8 w2A 2 0 2 []).2.2.1,(cY 2000 8 w2A 2 0 2 []).2.2.2⟩):=walkM_turn (T:=cY 2000 8) (f:=2) (s:=⟨fun _=>none,w2A,2,0⟩) (t:=⟨fun _=>none,w2A,2,0⟩) (x:=2) (out:=[]) rfl rfl;have h2:cY 2000 8 w2A 2 0 2 []=((2,0),w2A,(2,0)):=by
  unfold cY;rw [if_neg (by decide),if_neg (by decide)]
 rw [h2] at h1;unfold cA;rw [if_neg (by decide),show (2:Int).toNat+1=3 from rfl,h1]
theorem alt_w {x:Int} (h:x=2∨x=3):AltR w2A x:=by
 refine ⟨⟨by omega,by have:w2A.nodes.length=4:=rfl;omega⟩,alt_nokids ?_⟩;rcases h with rfl|rfl<;>rfl
section
variable {O:Nat→Prop} {r:(Int × Int) × aF × (Int × Int)} {w w0:World} {nodes limbs sp ov:Int} {gm g:Nat} {e:Ending}
structure Up (w0 w:World) (O:Nat→Prop) (g gm:Nat) (nodes limbs:Int) (A:aF) (sp ov:Int):Prop where
 arena:cD O w g gm A
 meter:bK O w gm nodes limbs sp ov
 low:∀b,O b∨b=gm→w0.heap.size≤b
 keep:aA Nil w0 w
theorem Up.mb {A:aF} (h:Up w0 w O g gm nodes limbs A sp ov):MB O w:=h.arena.lt
theorem Up.on {w1:World} {A:aF} (h:Up w0 w O g gm nodes limbs A sp ov) (k:aA Nil w w1):Up w0 w1 O g gm nodes limbs A sp ov:=⟨h.arena.keep k fun _ h=>h.elim,h.meter.keepNil k,h.low,h.keep.trans k⟩
theorem Up.step {w':World} {A:aF} (h:Up w0 w O g gm nodes limbs A sp ov) (hst:cJ O O w g gm nodes limbs r e w') :
  e=.returned (.tuple #[.int .i64 r.1.1,.int .i64 r.1.2])∧∃O':Nat→Prop,Up w0 w' O' g gm nodes limbs r.2.1 r.2.2.1 r.2.2.2:=by
 obtain ⟨h1,⟨O',q1,q2,q3,q4⟩,k⟩:=hst;refine ⟨h1,O',q1,q4.move (aA.refl Nil w') (fun _ _ h=>h.elim) fun b _ hb=>.inr hb,fun b hb=>?_,h.keep.newer k h.low⟩;rcases hb with hb|hb
 ·rcases q3 b hb with h2|h2
  ·exact h.low b (.inl h2)
  ·exact bZ1 h.keep.size h2
 ·exact h.low b (.inr hb)
theorem Up.start {w w1:World} {g b2 b3 b4 b5 gm:Nat} {nodes limbs:Int} (hm:bK (fun b=>Nil b∨b=g∨b=b2∨b=b3∨b=b4∨b=b5) w1 gm nodes limbs 0 0) (hgm:w.heap.size≤gm) (r0:aC w1 g 91 [.slice (some ⟨b2,0,none⟩) 2 2,.slice (some ⟨b3,0,none⟩) 2 2,.slice (some ⟨b4,0,none⟩) 2 2,.map (some b5),.pointer (some ⟨gm,0,none⟩)])
  (r2:aC w1 b2 68 [.int .i64 0,.bool false,.slice none 0 0,.slice none 0 0,.bool false,.slice none 0 0,.int .i64 0,.slice none 0 0,.int .i64 1,.bool false,.slice none 0 0,.slice none 0 0,.bool false,.slice none 0 0,.int .i64 0,.slice none 0 0])
  (r3:aC w1 b3 23 [.slice none 0 0,.slice none 0 0]) (r4:aC w1 b4 3 [.int .i64 0,.int .i64 0]) (r5:w1.heap[b5]?=some (.map #[] 0)) (hk:aA Nil w w1) (h1:w.heap.size≤g) (h2:w.heap.size≤b2) (h3:w.heap.size≤b3) (h4:w.heap.size≤b4) (h5:w.heap.size≤b5) :
  ∃O:Nat→Prop,Up w w1 O g gm nodes limbs startA 0 0:=by
 obtain ⟨O,hO⟩:∃O:Nat→Prop,O=fun b=>b=g∨b=b2∨b=b3∨b=b4∨b=b5:=⟨_,rfl⟩;have hm1:bK O w1 gm nodes limbs 0 0:=hm.move (aA.refl Nil w1) (fun _ _ h=>h.elim) fun b _ hb=>by rw [hO] at hb;exact .inr hb
 have hng:¬O gm:=by obtain ⟨s,-,-,-,hng,-⟩:=hm1;exact hng
 have hA:cD O w1 g gm startA:=by
  rw [hO] at hng⊢;exact⟨w.heap.size,_,_,_,_,_,_,ArenaW.start r0 r2 r3 r4 r5 h1 h2 h3 h4 h5 ⟨fun e=>hng (.inl e),fun e=>hng (.inr (.inl e)),fun e=>hng (.inr (.inr (.inl e))),fun e=>hng (.inr (.inr (.inr (.inl e)))),fun e=>hng (.inr (.inr (.inr (.inr e))))⟩⟩
 refine ⟨O,hA,hm1,fun b hb=>?_,hk⟩;rcases hb with hb|rfl
 ·rw [hO] at hb;rcases hb with rfl|rfl|rfl|rfl|rfl<;>assumption
 ·exact hgm
theorem awake9_any {B0:Nat} (hT:Tab B0 w):Calls prog 8 #[] w fun e w'=>e=.returned (.bool true)∧aA Nil w w':=by
 have HT:=jJ hT;have hB0:B0≤w.heap.size:=hT.1;clear hT;go_enter func8,ntmps8
 go_upto_region 2 with (go_at_call 9;refine (anew_nil (M:=Nil) (MB.nil _)).mono ?_;rintro e w1 ⟨g,b2,b3,b4,b5,gm,hm,hgm,rfl,r0,r2,r3,r4,r5,hk,h1,h2,h3,h4,h5⟩;have H1:=jJ (Up.start hm hgm r0 r2 r3 r4 r5 hk h1 h2 h3 h4 h5);clear hm hgm r0 r2 r3 r4 r5 hk h1 h2 h3 h4 h5)
 obtain ⟨O,hU⟩:=H1.o;have HU:=jJ hU;clear hU H1;have hsm:=small_wX;have hX:=small_normR (k:=2) (d:=0) (l:=[(0,1)]) (z:=0) hsm.1 hsm.2 (by decide);have hok:2≤(bT ⟨2,0,⟨[(0,1)],0⟩⟩).2.kind→OkB startA (bT ⟨2,0,⟨[(0,1)],0⟩⟩).2:=fun h2=>ok_of_small (V:=[0]) (nodes:=2000) (sp:=0) (InvA.start (by decide) (by decide)) (by decide) (by decide) (fun v hv=>by rw [dZ1.1 hv];exact⟨by decide,by decide⟩) hX h2 (by decide) (bZ2 _);have hwee:Wee (bE ⟨[(0,1)],0⟩):=(small_norm (l:=[(0,1)]) (z:=0) hsm.1 (by decide)).wee (by decide) (by decide);have HX:=jJ (aI hok hwee);clear hsm hX hok hwee;go_upto_region 3 with (first|(go_at_call 45;refine (tvar_any (M:=Nil) (v:=0) (MB.nil _) ⟨by decide,by decide⟩).mono ?_;rintro e w2 ⟨v,rfl,⟨ap,np,cp,gk,ak,nk,ck,rfl,ht⟩,hk2⟩;have H2:=jJ (aI ht (HU.o.on hk2));clear ht hk2)|(go_at_call 44;go_loud (refine (aatom_any (B0:=B0) (M0:=O) (A:=startA) (k:=2) (d:=0) (z:=0) (l:=[(0,1)]) H2.o.2.arena (HT.o.keepNil H2.o.2.keep) (fun _ h=>h) H2.o.2.mb H2.o.2.meter ((zn_zero Nil w2).zat (by simp [nlen0])) (cQ.raw H2.o.1.1 (fun p hp=>by rw [dZ1.1 hp];simp [nlen1])) (H2.o.1.2.zat (by simp [nlen0])) (by have:=SlOf.len H2.o.1.1;simp at this;omega) (by have h1:=H2.o.1.2.2.len;simp [bH] at h1;omega) HX.o.2 (by simp [nlen0]) (by decide) (by decide) (by decide) (by decide) (by decide) (by decide) HX.o.1).mono ?_);intro e w3 hst;obtain ⟨rfl,O1,hu⟩:=H2.o.2.step (show cJ O O w2 g gm 2000 8 ((2,0),w1A,(1,0)) e w3 by rw [←atom_wX];exact hst);have H3:=jJ hu;clear hu hst))
 go_upto_region 4 with (go_at_call 14;go_loud (refine (snegate_any (V:=[0]) (nid:=2) H3.o.arena (HT.o.keepNil H3.o.keep) (fun _ h=>h) H3.o.mb H3.o.meter (fun b hb=>bZ1 hB0 (H3.o.low b hb)) simp_w1 (by decide) (by decide) (by decide) (by decide) (fun v hv=>by rw [dZ1.1 hv];exact⟨by decide,by decide⟩)).mono ?_);intro e w4 hst;obtain ⟨rfl,O2,hu⟩:=H3.o.step (show cJ O1 O1 w3 g gm 2000 8 ((3,0),w2A,(2,0)) e w4 by rw [←neg_w];exact hst);have H4:=jJ hu;clear hu hst)
 go_upto_region 5 with (go_at_call 16;have ka:aA Nil w4 (w4.alloc (.cells #[.int .i64 2,.int .i64 3] 3)):=kOf;go_loud (refine (sand_any (V:=[0]) (M1:=Nil) (ids:=[2,3]) (H4.o.on ka).arena (HT.o.keepNil (H4.o.on ka).keep) (fun _ h=>h) (H4.o.on ka).mb (H4.o.on ka).meter (bP.ofRow aC.alloc id rfl (by decide)) simp_w2 (by decide) (by decide) (by decide) (fun k hk=>alt_w (by simpa using hk)) (by decide)).mono ?_);intro e w5 hst;obtain ⟨rfl,O3,hu⟩:=(H4.o.on ka).step (show cJ O2 O2 _ g gm 2000 8 ((0,0),w2A,(2,0)) e w5 by rw [←and_w];exact hst);have H5:=jJ hu;clear hu hst ka)
 go_upto_region 6 with (go_at_call 17;have ka:aA Nil w5 (w5.alloc (.cells #[.int .i64 2,.int .i64 3] 3)):=kOf;go_loud (refine (sor_any (V:=[0]) (M1:=Nil) (ids:=[2,3]) (H5.o.on ka).arena (HT.o.keepNil (H5.o.on ka).keep) (fun _ h=>h) (H5.o.on ka).mb (H5.o.on ka).meter (bP.ofRow aC.alloc id rfl (by decide)) simp_w2 (by decide) (by decide) (by decide) (fun k hk=>alt_w (by simpa using hk)) (by decide)).mono ?_);intro e w6 hst;obtain ⟨rfl,O4,hu⟩:=(H5.o.on ka).step (show cJ O3 O3 _ g gm 2000 8 ((1,0),w2A,(2,0)) e w6 by rw [←or_w];exact hst);have H6:=jJ hu;clear hu hst ka)
 go_wp2_with (go_at_call 15;go_loud (refine (again_any (V:=[0]) (nid:=2) H6.o.arena (HT.o.keepNil H6.o.keep) (fun _ h=>h) H6.o.mb H6.o.meter (fun b hb=>bZ1 hB0 (H6.o.low b hb)) simp_w2 (by decide) (by decide) (by decide) (by decide)).mono ?_);intro e w7 hst;obtain ⟨rfl,O5,hu⟩:=H6.o.step (show cJ O4 O4 w6 g gm 2000 8 ((2,0),w2A,(2,0)) e w7 by rw [←again_w];exact hst);have H7:=jJ hu;clear hu hst)
 go_ret
 exact⟨rfl,H7.o.keep⟩
end
end Go.Proofs.Q
