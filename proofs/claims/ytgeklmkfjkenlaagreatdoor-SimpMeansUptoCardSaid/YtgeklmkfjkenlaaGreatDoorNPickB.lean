/- What the laws' picked of layer 9 does, of nodes that there are; whether a node has no quantifier. -/
import Derived.Test.YtgeklmkfjkenlaaGreatDoorNSimpC
import Derived.Test.YtgeklmkfjkenlaaGreatDoorNFixes
set_option linter.unusedSimpArgs false
set_option linter.unusedVariables false
set_option maxRecDepth 100000
set_option maxHeartbeats 2000000
namespace Go.Proofs.Q
open Go.RowKit Tryz
def pickUp (ids l:List Int) (j:Nat):List Int:=(l.take j).map fun c=>ids.getD (pickN c ids.length) 0
def pickM (ids l:List Int):List Int:=pickUp ids l 12
theorem pickUp_succ (ids l:List Int) {j:Nat} (h:j<l.length):pickUp ids l (j+1)=pickUp ids l j++[ids.getD (pickN (l.getD j 0) ids.length) 0]:=by
 unfold pickUp;rw [take_snoc_getD h,cZ2];rfl
theorem pickM_len {ids l:List Int}:(pickM ids l).length≤12:=by unfold pickM pickUp;rw [hZ1,iZ1];omega
theorem pickM_mem {ids l:List Int} (h:1≤ids.length) {x:Int} (hx:x∈pickM ids l):x∈ids:=by
 obtain ⟨c,-,rfl⟩:=iZ2.1 hx;exact cH 0 (pickN_lt h)
theorem picked9_any {M M1:Nat→Prop} {w:World} {al ai:Option Addr} {nl cl ni ci:Nat} {l ids:List Int} (hl:bP M w al nl cl l) (hi:bP M1 w ai ni ci ids) (hv:∀k∈l,I64 k) (h1:1≤ids.length) (h2:ids.length≤1000000) :
  Calls prog 11 #[.slice ai ni ci,.slice al nl cl,.bool false] w fun e w'=>∃v,e=.returned v∧aL w' w.heap.size 3 1 v (aO (pickM ids l))∧aA Nil w w':=by
 obtain ⟨i1,hi1⟩:=info_parts info_int;have HI:=jJ hi1;have hni:ids.length=ni:=SlOf.len hi;have hcap:=SlOf.cap hi;have hle:=SlOf.le hi;have hnq:l.length=nl:=SlOf.len hl;have hcapq:=SlOf.cap hl;have hleq:=SlOf.le hl;have hni1:1≤ni:=by omega
 have hni2:ni≤1000000:=by omega
 have HA:=jJ (aI5 hl hi hni hnq hv);clear hi1 hl hi hni hnq h1 h2 hv;go_enter func11,ntmps11
 go_wp2_with fail
 go_loopw [7,8] (fun v i wr=>∃(j:Nat) (va:Option Addr) (vc:Nat),j≤nl∧j≤12∧i=.int .i64 (j:Int)∧v=.slice va j vc∧aL wr w.heap.size 3 1 (.slice va j vc) (aO (pickUp ids l j))∧aA Nil w wr) (fun _ i _=>12-(intOf i).toNat)
 case atStart=>exact⟨0,none,0,aZ2 _,aZ2 _,rfl,rfl,aL.nil _ _ _ _,aA.refl _ _⟩
 case round=>
  obtain ⟨j,va,vc,hj,hj5,rfl,rfl,hown,hkr⟩:=hrel;have lr:w.heap.size≤wr.heap.size:=hkr.size;have hcl2:(aO (pickUp ids l j)).length=j:=by
   have:=HA.o.2.2.2.1;rw [aH];unfold pickUp;rw [hZ1,iZ1];omega
  by_cases hlt:j<nl∧j<12
  ·have hkj:j<l.length:=by have:=HA.o.2.2.2.1;omega
   obtain ⟨b,off,rfl,ck⟩:=aW (HA.o.1.keepNil hkr) hlt.1;have hci:=HA.o.r4 (l.getD j 0) (cH 0 hkj);have hsu:=pickUp_succ ids l hkj;obtain ⟨x,hx⟩:∃x,x=l.getD j 0:=⟨_,rfl⟩;rw [←hx] at ck hci hsu;rw [HA.o.2.2.1] at hsu;obtain ⟨p,hp⟩:∃p,p=pickN x ni:=⟨_,rfl⟩;have hpl:p<ni:=by rw [hp];exact pickN_lt (by omega)
   obtain ⟨b2,off2,rfl,cp⟩:=aW (HA.o.2.1.keepNil hkr) hpl;rw [←hp] at hsu;obtain ⟨y,hy⟩:∃y,y=ids.getD p 0:=⟨_,rfl⟩;rw [←hy] at hsu cp;have j0:(0:Int)≤(j:Int):=by omega
   have j1:(j:Int)<(nl:Int):=by omega
   have j2:(j:Int)<12:=by omega
   have j3:(0:Int)≤(p:Int):=by omega
   have j4:(p:Int)<(ni:Int):=by omega
   have HC:=jJ (aI7 hown hkr hsu hcl2 hci hp lr);clear hown hkr hsu hcl2 hci hp hx hy hlt lr;go_wp2_with (first|(go_at_call 39;refine (pick8_any (c:=x) (n:=ni) HC.o.r4.1 hni1 hni2).mono ?_;rintro e w1 ⟨rfl,rfl⟩;rw [←HC.o.r5.1])|(at_builtin;go_loud (refine bV _ rfl (.tmp 31) (.tmp 42) 23 rfl w.heap.size 3 i1 (.int .i64 0) 1 8 underlying23 HI.o.1 HI.o.2.1 HI.o.2.2.1 HI.o.2.2.2 rfl (by decide) (.slice va j vc) _ rfl (HC.o.1.keepNil (w':=wr.alloc (.cells #[.int .i64 y] 3)) kOf) ⟨wr.heap.size,0,none⟩ 1 1 [[.int .i64 y]] rfl rfl (by simp) (alloc_news _ _ _) (by simp [Value.oneCell']) (by rw [HC.o.2.2.2.1];omega) (by rw [HC.o.2.2.2.1];omega) (by have:=HC.o.2.1.size;simp;omega) ?_);intro v' w2 ho hk2 hf2 _;obtain ⟨a7,c7,rfl⟩:=ho.isSlice;have e7:(aO (pickUp ids l j)++[[Value.int .i64 y]]).length=j+1:=(by have q:=HC.o.2.2.2.1;have q2:(aO (pickUp ids l j)++[[Value.int .i64 y]]).length=(aO (pickUp ids l j)).length+1:=aZ1;omega);rw [e7] at ho⊢;have HO:=jJ (aI ho hk2);clear ho hk2 hf2 e7))
   go_roundw
   case rel=>exact⟨j+1,a7,c7,by omega,by omega,by go_num,rfl,by rw [HC.o.2.2.1,cells1_snoc];exact HO.o.1,(HC.o.2.1.trans (c:=wr.alloc (.cells #[.int .i64 y] 3)) kOf).trans' HO.o.2 (fun b hb=>.inr (HC.o.1.lt b hb).1)⟩
   case measure=>simp [intOf];omega
  ·have hend:pickUp ids l j=pickM ids l:=by
    have:=HA.o.2.2.2.1;unfold pickM pickUp;rcases Nat.lt_or_ge j 12 with h5|h5
    ·rw [eZ1 (by omega),eZ1 (by omega)]
    ·rw [show j=12 by omega]
   rw [hend] at hown;have HC:=jJ (aI hown hkr);clear hown hkr hcl2 hend;rcases Nat.lt_or_ge j nl with hjq|hjq
   ·have j5:j=12:=by omega
    subst j5;have e0:decide (((12:Nat):Int)<(nl:Int))=true:=by simp;omega
    clear hlt;go_wp2_with fail
    go_ret
    exact⟨_,rfl,HC.o.1,HC.o.2⟩
   ·have e0:decide ((j:Int)<(nl:Int))=false:=by simp;omega
    clear hlt;go_wp2_with fail
    go_ret
    exact⟨_,rfl,HC.o.1,HC.o.2⟩
section
section
variable {P:Program} {w:World}
end
end
section
variable {r:(Int × Int) × aF × (Int × Int)} {O M M1:Nat→Prop} {V ids:List Int} {a:Option Addr} {nodes limbs sp ov:Int} {B0 gm g n c:Nat} {w w0 w6:World} {e:Ending}
theorem sjoin_big {M0:Nat→Prop} {A:aF} {kind:Int} (hA:cD O w g gm A) (hT:Tab B0 w) (hO:∀b,O b→M0 b) (hM0:MB M0 w) (hm:bK M0 w gm nodes limbs sp ov)
  (h:bP M1 w a n c ids) (hI:aZ V nodes limbs A sp) (hn:nodes≤2000) (hl:limbs≤8) (hV:V.length≤262144) (hids:∀k∈ids,0≤k∧k<(A.nodes.length:Int)) (hbig:(flatL A.nodes kind ids).length≤17592186044000) (hkd:kind=5∨kind=6) :
  Calls prog 57 #[.pointer (some ⟨g,0,none⟩),.int .i64 kind,.slice a n c] w fun e w'=>cJ O M0 w g gm nodes limbs (cK A nodes limbs sp ov kind ids) e w':=
 joined_any hA hT hO hM0 hm h hI.inv.sp0 hI.inv.spn hn (by have:=hI.inv.cnt;have:=hI.inv.spn;omega) (hI.fine hn hl hV) hbig hkd (roomK hI.inv hn hV (by omega) (by omega) (fun _=>rfl) (neatF_pair _) fun k hk=>by
  obtain ⟨y,hy,hxy⟩:=left_mem (dE.1 hk);have h1:=hids y hy;have h2:=flatX_mem hI.below h1.1 h1.2 hxy;omega)
structure UpM (M:Nat→Prop) (w0 w6 w:World) (O:Nat→Prop) (g gm:Nat) (nodes limbs:Int) (A:aF) (sp ov:Int):Prop where
 up:Up w0 w O g gm nodes limbs A sp ov
 inM:∀b,O b∨b=gm→M b
 grow:∀b,w6.heap.size≤b→M b
 keep:aA M w6 w
theorem UpM.on {M:Nat→Prop} {w0 w6 w w1:World} {O:Nat→Prop} {g gm:Nat} {nodes limbs:Int} {A:aF} {sp ov:Int} (h:UpM M w0 w6 w O g gm nodes limbs A sp ov) (k:aA Nil w w1):UpM M w0 w6 w1 O g gm nodes limbs A sp ov:=⟨h.up.on k,h.inM,h.grow,h.keep.trans' k fun _ hb=>hb.elim⟩
theorem UpM.step {w':World} {A:aF} (h:UpM M w0 w6 w O g gm nodes limbs A sp ov) (hst:cJ O O w g gm nodes limbs r e w') :
  e=.returned (.tuple #[.int .i64 r.1.1,.int .i64 r.1.2])∧∃O':Nat→Prop,UpM M w0 w6 w' O' g gm nodes limbs r.2.1 r.2.2.1 r.2.2.2:=by
 obtain ⟨h1,⟨O',q1,q2,q3,q4⟩,k⟩:=hst;have h6:=h.keep.size;refine ⟨h1,O',⟨q1,q4.move (aA.refl Nil w') (fun _ _ h=>h.elim) fun b _ hb=>.inr hb,fun b hb=>?_,h.up.keep.newer k h.up.low⟩,fun b hb=>?_,h.grow,h.keep.trans' k fun b hb=>.inl (h.inM b hb)⟩
 ·rcases hb with hb|hb
  ·rcases q3 b hb with h2|h2
   ·exact h.up.low b (.inl h2)
   ·exact bZ1 h.up.keep.size h2
  ·exact h.up.low b (.inr hb)
 ·rcases hb with hb|hb
  ·rcases q3 b hb with h2|h2
   ·exact h.inM b (.inl h2)
   ·exact h.grow b (by omega)
  ·exact h.inM b (.inr hb)
theorem and_up {A:aF} (hU:UpM M w0 w6 w O g gm nodes limbs A sp ov) (hT:Tab B0 w) (h:bP M1 w a n c ids) (hI:aZ V nodes limbs A sp) (hn:nodes≤2000) (hl:limbs≤8) (hV:V.length≤262144) (hids:∀k∈ids,0≤k∧k<(A.nodes.length:Int)) (hbig:(flatL A.nodes 5 ids).length≤17592186044000) (hr:r=cK A nodes limbs sp ov 5 ids) :
  Calls prog 16 #[.pointer (some ⟨g,0,none⟩),.slice a n c] w fun e w'=>e=.returned (.tuple #[.int .i64 r.1.1,.int .i64 r.1.2])∧∃O':Nat→Prop,UpM M w0 w6 w' O' g gm nodes limbs r.2.1 r.2.2.1 r.2.2.2:=by
 have hj:=sjoin_big (kind:=5) (ov:=ov) hU.up.arena hT (fun _ h=>h) hU.up.mb hU.up.meter h hI hn hl hV hids hbig (by decide);have HJ:=jJ (aI3 hU hj hr);clear hT h hI hn hl hV hids hj hU hr hbig;go_enter func16,ntmps16
 go_wp2_with (go_at_call 57;refine HJ.o.2.1.mono ?_;rintro e w1 hst;rw [←HJ.o.2.2] at hst;obtain ⟨rfl,O',hu⟩:=HJ.o.1.step hst;have H1:=jJ hu;clear hst hu)
 go_ret2
 exact⟨rfl,O',H1.o⟩
theorem or_up {A:aF} (hU:UpM M w0 w6 w O g gm nodes limbs A sp ov) (hT:Tab B0 w) (h:bP M1 w a n c ids) (hI:aZ V nodes limbs A sp) (hn:nodes≤2000) (hl:limbs≤8) (hV:V.length≤262144) (hids:∀k∈ids,0≤k∧k<(A.nodes.length:Int)) (hbig:(flatL A.nodes 6 ids).length≤17592186044000) (hr:r=cK A nodes limbs sp ov 6 ids) :
  Calls prog 17 #[.pointer (some ⟨g,0,none⟩),.slice a n c] w fun e w'=>e=.returned (.tuple #[.int .i64 r.1.1,.int .i64 r.1.2])∧∃O':Nat→Prop,UpM M w0 w6 w' O' g gm nodes limbs r.2.1 r.2.2.1 r.2.2.2:=by
 have hj:=sjoin_big (kind:=6) (ov:=ov) hU.up.arena hT (fun _ h=>h) hU.up.mb hU.up.meter h hI hn hl hV hids hbig (by decide);have HJ:=jJ (aI3 hU hj hr);clear hT h hI hn hl hV hids hj hU hr hbig;go_enter func17,ntmps17
 go_wp2_with (go_at_call 57;refine HJ.o.2.1.mono ?_;rintro e w1 hst;rw [←HJ.o.2.2] at hst;obtain ⟨rfl,O',hu⟩:=HJ.o.1.step hst;have H1:=jJ hu;clear hst hu)
 go_ret2
 exact⟨rfl,O',H1.o⟩
theorem again_up {A:aF} {x:Int} (hU:UpM M w0 w6 w O g gm nodes limbs A sp ov) (hT:Tab B0 w) (hB:B0≤w0.heap.size) (hI:aZ V nodes limbs A sp) (hl0:0≤limbs) (hn:nodes≤2000) (hl:limbs≤8) (hV:V.length≤262144) (hr:r=cA (cY nodes limbs) A sp ov x) :
  Calls prog 15 #[.pointer (some ⟨g,0,none⟩),.int .i64 x] w fun e w'=>e=.returned (.tuple #[.int .i64 r.1.1,.int .i64 r.1.2])∧∃O':Nat→Prop,UpM M w0 w6 w' O' g gm nodes limbs r.2.1 r.2.2.1 r.2.2.2:=
 (again_any (nid:=x) hU.up.arena hT (fun _ h=>h) hU.up.mb hU.up.meter (fun b hb=>bZ1 hB (hU.up.low b hb)) hI hl0 hn hl hV).mono fun e w1 hst=>by
  rw [←hr] at hst;exact hU.step hst
end
end Go.Proofs.Q
