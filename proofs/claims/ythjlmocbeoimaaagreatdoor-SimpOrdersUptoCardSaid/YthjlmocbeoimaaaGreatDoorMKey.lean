/- What arena.key does: a node's text. -/
import Derived.Test.YthjlmocbeoimaaaGreatDoorMBytes
import Derived.Test.YthjlmocbeoimaaaGreatDoorMAtom6
set_option linter.unusedSimpArgs false
set_option linter.unusedVariables false
set_option maxRecDepth 100000
set_option maxHeartbeats 4000000
namespace Go.Rid
open Go.RowKit
variable {a:Option Addr} {M:Nat→Prop} {l:List Int} {w:World} {n c i:Nat}
structure aW where
 kind:Int
 d:Int
 t:bB
 var:Int
 kids:List Int
def RI (cs:List Value) (x:Int):Prop:=cs=[.int .i64 x]
def bH (M:Nat→Prop) (w:World) (a:Option Addr) (n c:Nat) (l:List Int):Prop:=SlOf M w 1 RI 0 a n c l
theorem bH.keepNil {w':World} (h:bH M w a n c l) (k:aA Nil w w'):bH M w' a n c l:=SlOf.move h k (fun _ _ h=>h.elim) (fun _ _=>id) fun _ _ h=>h
structure NodeAt (M:Nat→Prop) (w:World) (gd:Bool) (ad:Option Addr) (nd cd:Nat) (ap:Option Addr) (np cp:Nat) (gk:Bool) (ak:Option Addr) (nk ck:Nat) (aq:Option Addr) (nq cq:Nat) (N:aW):Prop where
 d:ZN M w gd ad nd cd N.d
 t:TermAt M w ap np cp gk ak nk ck N.t
 kids:bH M w aq nq cq N.kids
theorem aY (h:bH M w a n c l) (hi:i<n):∃b off,a=some ⟨b,off,none⟩∧w.cell? ⟨b,off+i,none⟩=some (.int .i64 (l.getD i 0)):=by
 obtain ⟨f,hs,hr⟩:=h.ex;obtain ⟨b,off,rfl,hb,hn,hc⟩:=hs.at (by omega);refine ⟨b,off,rfl,?_⟩;have h1:=hc i 0 hi (by omega);obtain ⟨h2,h3⟩:=hr i hi;rw [Nat.mul_one,Nat.add_zero] at h1;rw [h1,show (f i)=[.int .i64 (l.getD i 0)] from h3];rfl
def strOf (l:List Nat):ByteArray:=⟨(l.map UInt8.ofNat).toArray⟩
theorem strOf_nats (l:List UInt8):strOf (nats l)=⟨l.toArray⟩:=by
 unfold strOf nats;rw [List.map_map];congr 2;conv=>rhs;rw [←List.map_id l]
 exact List.map_congr_left fun x _=>by simp
theorem bJ (l m:List Nat):strOf l++strOf m=strOf (l++m):=by
 apply ByteArray.ext;simp [strOf,ByteArray.data_append]
theorem aT (l:List Nat):(strOf l).size=l.length:=by simp [strOf,ByteArray.size]
theorem bL {i:Int} (h0:-9223372036854775808≤i) (h1:i≤9223372036854775807):(bC i).length≤21:=by
 rw [bC,Lib.itoa];split
 ·have:=length_decN (u:=i.natAbs) (by omega);rw [decN] at this;simp only [nats,dZ2,gZ1] at this⊢;omega
 ·have:=length_decN (u:=i.toNat) (by omega);rw [decN] at this;omega
def bW (l:aX):List Nat:=l.flatMap fun p=>bC p.1++dP p.2
def cL (l:List Int):List Nat:=l.flatMap fun k=>bC k++[44]
theorem kidsTxt_snoc (l:List Int) (x:Int):cL (l++[x])=cL l++(bC x++[44]):=by simp [cL]
theorem length_kidsTxt:∀(l:List Int),(∀x∈l,-9223372036854775808≤x∧x≤9223372036854775807)→(cL l).length≤22*l.length
 | [],_=>by simp [cL]
 | x::l,h=>by
  have h1:=length_kidsTxt l fun y hy=>h y (lZ1 _ hy);have h2:=bL (h x (kZ1 ..)).1 (h x (kZ1 ..)).2;rw [show cL (x::l)=(bC x++[44])++cL l from rfl,aZ1,aZ1,gZ1];simp only [gZ1,gZ2];omega
def bA (N:aW):List Nat:=bC N.kind++[32]++(if N.kind=2∨N.kind=3∨N.kind=4 then dP N.d++dP N.t.k++bW N.t.parts else (if N.kind=7∨N.kind=8 then bC N.var++[58] else [])++cL N.kids)
def I64 (v:Int):Prop:=-9223372036854775808≤v∧v≤9223372036854775807
end Go.Rid
namespace Go.Proofs.Q
open Go.RowKit Go.Rid
variable {M:Nat→Prop} {w w':World} {B cd np cp nk ck nq cq:Nat} {v d z n:Int} {l:aX} {gd gk:Bool} {ad ap ak aq:Option Addr}
def Tab (B:Nat) (w:World):Prop:=B≤w.heap.size∧Lib.TabBelow Tryz.prog B w "internal/strconv.uint64pow10" .u64 Lib.pow10Tab
theorem Tab.keep (h:Tab B w) (k:aA M w w') (hM:∀b,M b→B≤b):Tab B w':=⟨bZ1 h.1 k.size,h.2.on (below_of k hM h.1)⟩
theorem Tab.keepNil (h:Tab B w) (k:aA Nil w w'):Tab B w':=h.keep k fun _ h=>h.elim
theorem itoa_any (hn:I64 n) (h:Tab B w):Calls Tryz.prog 95 #[.int .i64 n] w fun e w'=>e=.returned (.string (strOf (bC n)))∧aA Nil w w':=by
 refine (Tryz.strconv_Itoa n hn.1 hn.2 w h.2.here).mono ?_;rintro e w' ⟨rfl,k,os,rfl⟩;exact⟨by rw [bC,strOf_nats],keeps_grow w k os⟩
theorem key5 {nd:Nat} {q:List Int} (hT:Tab B w) (h:NodeAt M w gd ad nd cd ap np cp gk ak nk ck aq nq cq ⟨5,d,⟨l,z⟩,v,q⟩) (hv:I64 v) (hq:∀x∈q,I64 x) (hn:nq≤16777216) :
  Calls Tryz.prog 62 #[.agg #[.int .i64 5,.bool gd,.slice ad nd cd,.slice ap np cp,.bool gk,.slice ak nk ck,.int .i64 v,.slice aq nq cq]] w fun e w'=>e=.returned (.string (strOf (bA ⟨5,d,⟨l,z⟩,v,q⟩)))∧aA Nil w w':=by
 have hkt:bA ⟨5,d,⟨l,z⟩,v,q⟩=bC 5++[32]++cL q:=by
  unfold bA;simp only;rw [if_neg (by omega),if_neg (by omega),fZ3]
 have hkI:I64 5:=by unfold I64;omega
 have hkd:=h.kids;have HA:=jJ (aI6 hT hkd hkI hv hq hkt);clear hT h hkI hv hq hkt hkd;go_enter Tryz.func62,Tryz.ntmps62
 go_upto_region 1 with (fail)
 have r0:=aF.alloc (w:=w) (E:=55) (xs:=[.int .i64 5,.bool gd,.slice ad nd cd,.slice ap np cp,.bool gk,.slice ak nk ck,.int .i64 v,.slice aq nq cq]);change aF (w.alloc (.cells #[.int .i64 5,.bool gd,.slice ad nd cd,.slice ap np cp,.bool gk,.slice ak nk ck,.int .i64 v,.slice aq nq cq] 55)) _ _ _ at r0;have k0:aA Nil w (w.alloc (.cells #[.int .i64 5,.bool gd,.slice ad nd cd,.slice ap np cp,.bool gk,.slice ak nk ck,.int .i64 v,.slice aq nq cq] 55)):=kOf;generalize (w.alloc (.cells #[.int .i64 5,.bool gd,.slice ad nd cd,.slice ap np cp,.bool gk,.slice ak nk ck,.int .i64 v,.slice aq nq cq] 55))=w0 at *
 have H0:=jJ (aI k0 r0);have c0:w0.cell? ⟨w.heap.size,0,none⟩=some (.int .i64 5):=r0.cell 0;have hs0:(strOf (bC 5)).size≤21:=by rw [aT];exact bL HA.o.2.2.1.1 HA.o.2.2.1.2
 clear k0 r0;go_upto_region 2 with (go_at_call 95;refine (itoa_any HA.o.2.2.1 (HA.o.1.keepNil H0.o.1)).mono ?_;rintro e w1 ⟨rfl,hk1⟩;have r1:=H0.o.2.keep hk1 id;have d0:w1.cell? ⟨w.heap.size,0,none⟩=some (.int .i64 5):=r1.cell 0;have d6:w1.cell? ⟨w.heap.size,6,none⟩=some (.int .i64 v):=r1.cell 6;have d7:w1.cell? ⟨w.heap.size,7,none⟩=some (.slice aq nq cq):=r1.cell 7;have H1:=jJ (aI hk1 r1);clear hk1 r1)
 rw [show strOf (bC 5)++(⟨#[32]⟩:ByteArray)=strOf (bC 5++[32]) from bJ _ [32]];obtain ⟨t0,ht0⟩:∃t,t=bC 5++[32]:=⟨_,rfl⟩;rw [←ht0];have hs1:(strOf t0).size≤22:=by rw [aT,ht0,aZ1];rw [aT] at hs0;simp;omega
 have HT0:=jJ ht0;have hs2:(strOf (bC v)).size≤21:=by rw [aT];exact bL HA.o.2.2.2.1.1 HA.o.2.2.2.1.2
 clear ht0 hs0 c0;go_upto_region 17 with fail
 obtain ⟨t1,ht1⟩:∃t,t=t0:=⟨_,rfl⟩;rw [←ht1];rw [HT0.o] at ht1;have hs4:(strOf t1).size≤44:=by rw [ht1,←HT0.o];omega
 clear hs1 hs2 d0 d6;have kw:aA Nil w w1:=H0.o.1.trans H1.o.1;have HT1:=jJ (aI ht1 kw);have hkd:=HA.o.2.1.keepNil kw;have hle:=(hkd.ex.elim fun f h=>h.1.le);have hcap:=(hkd.ex.elim fun f h=>h.1.cap);have hlen:q.length=nq:=SlOf.len hkd;have HKD:=jJ (aI hkd hlen);clear ht1 kw hkd hlen;go_wp2_with fail
 go_loopw [3,59] (fun u i wr=>∃n:Nat,i=.int .i64 n∧n≤nq∧u=.string (strOf (t1++cL (q.take n)))∧aA Nil w1 wr) (fun _ i _=>nq-(intOf i).toNat)
 case atStart=>exact⟨0,rfl,aZ2 _,by rw [List.take_zero,show cL []=[] from rfl,fZ2],aA.refl _ _⟩
 case round=>
  obtain ⟨n,rfl,hn1,rfl,hkr⟩:=hrel;have hsz:(strOf (t1++cL (q.take n))).size≤44+22*n:=by
   rw [aT,aZ1];rw [aT] at hs4;have h1:=length_kidsTxt (q.take n) fun x hx=>HA.o.r4.1 x (aZ3 hx);have h2:(q.take n).length≤n:=by rw [iZ1];exact Nat.min_le_left _ _
   omega
  obtain ⟨t2,ht2⟩:∃t,t=t1++cL (q.take n):=⟨_,rfl⟩;rw [←ht2] at hsz⊢;have HK:=jJ (aI ht2 hkr);clear ht2 hkr;by_cases hnq:n<nq
  ·have hkd2:=HKD.o.1.keepNil HK.o.2;obtain ⟨bq,oq,rfl,hcell⟩:=aY hkd2 hnq;have htk:q.take (n+1)=q.take n++[q.getD n 0]:=by
    have h1:n<q.length:=by rw [HKD.o.2];exact hnq
    rw [List.take_succ_eq_append_getElem h1];simp [List.getD,h1]
   have hx:I64 (q.getD n 0):=HA.o.r4.1 _ (by
    have h1:n<q.length:=by rw [HKD.o.2];exact hnq
    simp [List.getD,h1])
   have HX:=jJ (aI htk hx);clear htk hkd2;generalize q.getD n 0=x at *
   have hs5:(strOf (bC x)).size≤21:=by rw [aT];exact bL hx.1 hx.2
   clear hx;have hs6:(strOf (bC x++[44])).size≤22:=by rw [aT,aZ1];rw [aT] at hs5;simp;omega
   have he6:strOf (bC x)++(⟨#[44]⟩:ByteArray)=strOf (bC x++[44]):=bJ _ [44];go_wp2_with (go_at_call 95;refine (itoa_any HX.o.2 ((HA.o.1.keepNil HT1.o.2).keepNil HK.o.2)).mono ?_;rintro e w3 ⟨rfl,hk3⟩;have H3:=jJ hk3;clear hk3)
   go_roundw
   case rel=>
    refine ⟨n+1,by go_num,hnq,?_,HK.o.2.trans H3.o⟩;rw [HX.o.1,kidsTxt_snoc,←lZ2,←HK.o.1];first|rw [he6,bJ]|rw [bJ]
   case measure=>simp [intOf];omega
  ·have en:nq=n:=by omega
   go_wp2_with fail
   go_ret
   refine ⟨?_,HT1.o.2.trans HK.o.2⟩;rw [HA.o.r5,←HT1.o.1,HK.o.1,eZ1 (by rw [HKD.o.2];omega)];rfl
theorem key6 {nd:Nat} {q:List Int} (hT:Tab B w) (h:NodeAt M w gd ad nd cd ap np cp gk ak nk ck aq nq cq ⟨6,d,⟨l,z⟩,v,q⟩) (hv:I64 v) (hq:∀x∈q,I64 x) (hn:nq≤16777216) :
  Calls Tryz.prog 62 #[.agg #[.int .i64 6,.bool gd,.slice ad nd cd,.slice ap np cp,.bool gk,.slice ak nk ck,.int .i64 v,.slice aq nq cq]] w fun e w'=>e=.returned (.string (strOf (bA ⟨6,d,⟨l,z⟩,v,q⟩)))∧aA Nil w w':=by
 have hkt:bA ⟨6,d,⟨l,z⟩,v,q⟩=bC 6++[32]++cL q:=by
  unfold bA;simp only;rw [if_neg (by omega),if_neg (by omega),fZ3]
 have hkI:I64 6:=by unfold I64;omega
 have hkd:=h.kids;have HA:=jJ (aI6 hT hkd hkI hv hq hkt);clear hT h hkI hv hq hkt hkd;go_enter Tryz.func62,Tryz.ntmps62
 go_upto_region 1 with (fail)
 have r0:=aF.alloc (w:=w) (E:=55) (xs:=[.int .i64 6,.bool gd,.slice ad nd cd,.slice ap np cp,.bool gk,.slice ak nk ck,.int .i64 v,.slice aq nq cq]);change aF (w.alloc (.cells #[.int .i64 6,.bool gd,.slice ad nd cd,.slice ap np cp,.bool gk,.slice ak nk ck,.int .i64 v,.slice aq nq cq] 55)) _ _ _ at r0;have k0:aA Nil w (w.alloc (.cells #[.int .i64 6,.bool gd,.slice ad nd cd,.slice ap np cp,.bool gk,.slice ak nk ck,.int .i64 v,.slice aq nq cq] 55)):=kOf;generalize (w.alloc (.cells #[.int .i64 6,.bool gd,.slice ad nd cd,.slice ap np cp,.bool gk,.slice ak nk ck,.int .i64 v,.slice aq nq cq] 55))=w0 at *
 have H0:=jJ (aI k0 r0);have c0:w0.cell? ⟨w.heap.size,0,none⟩=some (.int .i64 6):=r0.cell 0;have hs0:(strOf (bC 6)).size≤21:=by rw [aT];exact bL HA.o.2.2.1.1 HA.o.2.2.1.2
 clear k0 r0;go_upto_region 2 with (go_at_call 95;refine (itoa_any HA.o.2.2.1 (HA.o.1.keepNil H0.o.1)).mono ?_;rintro e w1 ⟨rfl,hk1⟩;have r1:=H0.o.2.keep hk1 id;have d0:w1.cell? ⟨w.heap.size,0,none⟩=some (.int .i64 6):=r1.cell 0;have d6:w1.cell? ⟨w.heap.size,6,none⟩=some (.int .i64 v):=r1.cell 6;have d7:w1.cell? ⟨w.heap.size,7,none⟩=some (.slice aq nq cq):=r1.cell 7;have H1:=jJ (aI hk1 r1);clear hk1 r1)
 rw [show strOf (bC 6)++(⟨#[32]⟩:ByteArray)=strOf (bC 6++[32]) from bJ _ [32]];obtain ⟨t0,ht0⟩:∃t,t=bC 6++[32]:=⟨_,rfl⟩;rw [←ht0];have hs1:(strOf t0).size≤22:=by rw [aT,ht0,aZ1];rw [aT] at hs0;simp;omega
 have HT0:=jJ ht0;have hs2:(strOf (bC v)).size≤21:=by rw [aT];exact bL HA.o.2.2.2.1.1 HA.o.2.2.2.1.2
 clear ht0 hs0 c0;go_upto_region 17 with fail
 obtain ⟨t1,ht1⟩:∃t,t=t0:=⟨_,rfl⟩;rw [←ht1];rw [HT0.o] at ht1;have hs4:(strOf t1).size≤44:=by rw [ht1,←HT0.o];omega
 clear hs1 hs2 d0 d6;have kw:aA Nil w w1:=H0.o.1.trans H1.o.1;have HT1:=jJ (aI ht1 kw);have hkd:=HA.o.2.1.keepNil kw;have hle:=(hkd.ex.elim fun f h=>h.1.le);have hcap:=(hkd.ex.elim fun f h=>h.1.cap);have hlen:q.length=nq:=SlOf.len hkd;have HKD:=jJ (aI hkd hlen);clear ht1 kw hkd hlen;go_wp2_with fail
 go_loopw [3,59] (fun u i wr=>∃n:Nat,i=.int .i64 n∧n≤nq∧u=.string (strOf (t1++cL (q.take n)))∧aA Nil w1 wr) (fun _ i _=>nq-(intOf i).toNat)
 case atStart=>exact⟨0,rfl,aZ2 _,by rw [List.take_zero,show cL []=[] from rfl,fZ2],aA.refl _ _⟩
 case round=>
  obtain ⟨n,rfl,hn1,rfl,hkr⟩:=hrel;have hsz:(strOf (t1++cL (q.take n))).size≤44+22*n:=by
   rw [aT,aZ1];rw [aT] at hs4;have h1:=length_kidsTxt (q.take n) fun x hx=>HA.o.r4.1 x (aZ3 hx);have h2:(q.take n).length≤n:=by rw [iZ1];exact Nat.min_le_left _ _
   omega
  obtain ⟨t2,ht2⟩:∃t,t=t1++cL (q.take n):=⟨_,rfl⟩;rw [←ht2] at hsz⊢;have HK:=jJ (aI ht2 hkr);clear ht2 hkr;by_cases hnq:n<nq
  ·have hkd2:=HKD.o.1.keepNil HK.o.2;obtain ⟨bq,oq,rfl,hcell⟩:=aY hkd2 hnq;have htk:q.take (n+1)=q.take n++[q.getD n 0]:=by
    have h1:n<q.length:=by rw [HKD.o.2];exact hnq
    rw [List.take_succ_eq_append_getElem h1];simp [List.getD,h1]
   have hx:I64 (q.getD n 0):=HA.o.r4.1 _ (by
    have h1:n<q.length:=by rw [HKD.o.2];exact hnq
    simp [List.getD,h1])
   have HX:=jJ (aI htk hx);clear htk hkd2;generalize q.getD n 0=x at *
   have hs5:(strOf (bC x)).size≤21:=by rw [aT];exact bL hx.1 hx.2
   clear hx;have hs6:(strOf (bC x++[44])).size≤22:=by rw [aT,aZ1];rw [aT] at hs5;simp;omega
   have he6:strOf (bC x)++(⟨#[44]⟩:ByteArray)=strOf (bC x++[44]):=bJ _ [44];go_wp2_with (go_at_call 95;refine (itoa_any HX.o.2 ((HA.o.1.keepNil HT1.o.2).keepNil HK.o.2)).mono ?_;rintro e w3 ⟨rfl,hk3⟩;have H3:=jJ hk3;clear hk3)
   go_roundw
   case rel=>
    refine ⟨n+1,by go_num,hnq,?_,HK.o.2.trans H3.o⟩;rw [HX.o.1,kidsTxt_snoc,←lZ2,←HK.o.1];first|rw [he6,bJ]|rw [bJ]
   case measure=>simp [intOf];omega
  ·have en:nq=n:=by omega
   go_wp2_with fail
   go_ret
   refine ⟨?_,HT1.o.2.trans HK.o.2⟩;rw [HA.o.r5,←HT1.o.1,HK.o.1,eZ1 (by rw [HKD.o.2];omega)];rfl
theorem key7 {nd:Nat} {q:List Int} (hT:Tab B w) (h:NodeAt M w gd ad nd cd ap np cp gk ak nk ck aq nq cq ⟨7,d,⟨l,z⟩,v,q⟩) (hv:I64 v) (hq:∀x∈q,I64 x) (hn:nq≤16777216) :
  Calls Tryz.prog 62 #[.agg #[.int .i64 7,.bool gd,.slice ad nd cd,.slice ap np cp,.bool gk,.slice ak nk ck,.int .i64 v,.slice aq nq cq]] w fun e w'=>e=.returned (.string (strOf (bA ⟨7,d,⟨l,z⟩,v,q⟩)))∧aA Nil w w':=by
 have hkt:bA ⟨7,d,⟨l,z⟩,v,q⟩=bC 7++[32]++(bC v++[58])++cL q:=by
  unfold bA;simp only;rw [if_neg (by omega),if_pos (by simp),←lZ2]
 have hkI:I64 7:=by unfold I64;omega
 have hkd:=h.kids;have HA:=jJ (aI6 hT hkd hkI hv hq hkt);clear hT h hkI hv hq hkt hkd;go_enter Tryz.func62,Tryz.ntmps62
 go_upto_region 1 with (fail)
 have r0:=aF.alloc (w:=w) (E:=55) (xs:=[.int .i64 7,.bool gd,.slice ad nd cd,.slice ap np cp,.bool gk,.slice ak nk ck,.int .i64 v,.slice aq nq cq]);change aF (w.alloc (.cells #[.int .i64 7,.bool gd,.slice ad nd cd,.slice ap np cp,.bool gk,.slice ak nk ck,.int .i64 v,.slice aq nq cq] 55)) _ _ _ at r0;have k0:aA Nil w (w.alloc (.cells #[.int .i64 7,.bool gd,.slice ad nd cd,.slice ap np cp,.bool gk,.slice ak nk ck,.int .i64 v,.slice aq nq cq] 55)):=kOf;generalize (w.alloc (.cells #[.int .i64 7,.bool gd,.slice ad nd cd,.slice ap np cp,.bool gk,.slice ak nk ck,.int .i64 v,.slice aq nq cq] 55))=w0 at *
 have H0:=jJ (aI k0 r0);have c0:w0.cell? ⟨w.heap.size,0,none⟩=some (.int .i64 7):=r0.cell 0;have hs0:(strOf (bC 7)).size≤21:=by rw [aT];exact bL HA.o.2.2.1.1 HA.o.2.2.1.2
 clear k0 r0;go_upto_region 2 with (go_at_call 95;refine (itoa_any HA.o.2.2.1 (HA.o.1.keepNil H0.o.1)).mono ?_;rintro e w1 ⟨rfl,hk1⟩;have r1:=H0.o.2.keep hk1 id;have d0:w1.cell? ⟨w.heap.size,0,none⟩=some (.int .i64 7):=r1.cell 0;have d6:w1.cell? ⟨w.heap.size,6,none⟩=some (.int .i64 v):=r1.cell 6;have d7:w1.cell? ⟨w.heap.size,7,none⟩=some (.slice aq nq cq):=r1.cell 7;have H1:=jJ (aI hk1 r1);clear hk1 r1)
 rw [show strOf (bC 7)++(⟨#[32]⟩:ByteArray)=strOf (bC 7++[32]) from bJ _ [32]];obtain ⟨t0,ht0⟩:∃t,t=bC 7++[32]:=⟨_,rfl⟩;rw [←ht0];have hs1:(strOf t0).size≤22:=by rw [aT,ht0,aZ1];rw [aT] at hs0;simp;omega
 have HT0:=jJ ht0;have hs2:(strOf (bC v)).size≤21:=by rw [aT];exact bL HA.o.2.2.2.1.1 HA.o.2.2.2.1.2
 clear ht0 hs0 c0;have hs3:(strOf (bC v++[58])).size≤22:=by rw [aT,aZ1];rw [aT] at hs2;simp;omega
 have he3:strOf (bC v)++(⟨#[58]⟩:ByteArray)=strOf (bC v++[58]):=bJ _ [58];go_upto_region 17 with (go_at_call 95;refine (itoa_any HA.o.2.2.2.1 ((HA.o.1.keepNil H0.o.1).keepNil H1.o.1)).mono ?_;rintro e w2 ⟨rfl,hk2⟩;have r2:=H1.o.2.keep hk2 id;have e7:w2.cell? ⟨w.heap.size,7,none⟩=some (.slice aq nq cq):=r2.cell 7;have H2:=jJ (aI hk2 r2);clear hk2 r2 d7)
 try rw [he3]
 rw [bJ t0];obtain ⟨t1,ht1⟩:∃t,t=t0++(bC v++[58]):=⟨_,rfl⟩;rw [←ht1];rw [HT0.o] at ht1;have hs4:(strOf t1).size≤44:=by rw [ht1,aT,aZ1,←HT0.o];rw [aT] at hs1 hs3;omega
 clear hs1 hs2 hs3 he3 d0 d6;have kw:aA Nil w w2:=(H0.o.1.trans H1.o.1).trans H2.o.1;have HT1:=jJ (aI ht1 kw);have hkd:=HA.o.2.1.keepNil kw;have hle:=(hkd.ex.elim fun f h=>h.1.le);have hcap:=(hkd.ex.elim fun f h=>h.1.cap);have hlen:q.length=nq:=SlOf.len hkd;have HKD:=jJ (aI hkd hlen);clear ht1 kw hkd hlen;go_wp2_with fail
 go_loopw [3,59] (fun u i wr=>∃n:Nat,i=.int .i64 n∧n≤nq∧u=.string (strOf (t1++cL (q.take n)))∧aA Nil w2 wr) (fun _ i _=>nq-(intOf i).toNat)
 case atStart=>exact⟨0,rfl,aZ2 _,by rw [List.take_zero,show cL []=[] from rfl,fZ2],aA.refl _ _⟩
 case round=>
  obtain ⟨n,rfl,hn1,rfl,hkr⟩:=hrel;have hsz:(strOf (t1++cL (q.take n))).size≤44+22*n:=by
   rw [aT,aZ1];rw [aT] at hs4;have h1:=length_kidsTxt (q.take n) fun x hx=>HA.o.r4.1 x (aZ3 hx);have h2:(q.take n).length≤n:=by rw [iZ1];exact Nat.min_le_left _ _
   omega
  obtain ⟨t2,ht2⟩:∃t,t=t1++cL (q.take n):=⟨_,rfl⟩;rw [←ht2] at hsz⊢;have HK:=jJ (aI ht2 hkr);clear ht2 hkr;by_cases hnq:n<nq
  ·have hkd2:=HKD.o.1.keepNil HK.o.2;obtain ⟨bq,oq,rfl,hcell⟩:=aY hkd2 hnq;have htk:q.take (n+1)=q.take n++[q.getD n 0]:=by
    have h1:n<q.length:=by rw [HKD.o.2];exact hnq
    rw [List.take_succ_eq_append_getElem h1];simp [List.getD,h1]
   have hx:I64 (q.getD n 0):=HA.o.r4.1 _ (by
    have h1:n<q.length:=by rw [HKD.o.2];exact hnq
    simp [List.getD,h1])
   have HX:=jJ (aI htk hx);clear htk hkd2;generalize q.getD n 0=x at *
   have hs5:(strOf (bC x)).size≤21:=by rw [aT];exact bL hx.1 hx.2
   clear hx;have hs6:(strOf (bC x++[44])).size≤22:=by rw [aT,aZ1];rw [aT] at hs5;simp;omega
   have he6:strOf (bC x)++(⟨#[44]⟩:ByteArray)=strOf (bC x++[44]):=bJ _ [44];go_wp2_with (go_at_call 95;refine (itoa_any HX.o.2 ((HA.o.1.keepNil HT1.o.2).keepNil HK.o.2)).mono ?_;rintro e w3 ⟨rfl,hk3⟩;have H3:=jJ hk3;clear hk3)
   go_roundw
   case rel=>
    refine ⟨n+1,by go_num,hnq,?_,HK.o.2.trans H3.o⟩;rw [HX.o.1,kidsTxt_snoc,←lZ2,←HK.o.1];first|rw [he6,bJ]|rw [bJ]
   case measure=>simp [intOf];omega
  ·have en:nq=n:=by omega
   go_wp2_with fail
   go_ret
   refine ⟨?_,HT1.o.2.trans HK.o.2⟩;rw [HA.o.r5,←HT1.o.1,HK.o.1,eZ1 (by rw [HKD.o.2];omega)];rfl
theorem key8 {nd:Nat} {q:List Int} (hT:Tab B w) (h:NodeAt M w gd ad nd cd ap np cp gk ak nk ck aq nq cq ⟨8,d,⟨l,z⟩,v,q⟩) (hv:I64 v) (hq:∀x∈q,I64 x) (hn:nq≤16777216) :
  Calls Tryz.prog 62 #[.agg #[.int .i64 8,.bool gd,.slice ad nd cd,.slice ap np cp,.bool gk,.slice ak nk ck,.int .i64 v,.slice aq nq cq]] w fun e w'=>e=.returned (.string (strOf (bA ⟨8,d,⟨l,z⟩,v,q⟩)))∧aA Nil w w':=by
 have hkt:bA ⟨8,d,⟨l,z⟩,v,q⟩=bC 8++[32]++(bC v++[58])++cL q:=by
  unfold bA;simp only;rw [if_neg (by omega),if_pos (by simp),←lZ2]
 have hkI:I64 8:=by unfold I64;omega
 have hkd:=h.kids;have HA:=jJ (aI6 hT hkd hkI hv hq hkt);clear hT h hkI hv hq hkt hkd;go_enter Tryz.func62,Tryz.ntmps62
 go_upto_region 1 with (fail)
 have r0:=aF.alloc (w:=w) (E:=55) (xs:=[.int .i64 8,.bool gd,.slice ad nd cd,.slice ap np cp,.bool gk,.slice ak nk ck,.int .i64 v,.slice aq nq cq]);change aF (w.alloc (.cells #[.int .i64 8,.bool gd,.slice ad nd cd,.slice ap np cp,.bool gk,.slice ak nk ck,.int .i64 v,.slice aq nq cq] 55)) _ _ _ at r0;have k0:aA Nil w (w.alloc (.cells #[.int .i64 8,.bool gd,.slice ad nd cd,.slice ap np cp,.bool gk,.slice ak nk ck,.int .i64 v,.slice aq nq cq] 55)):=kOf;generalize (w.alloc (.cells #[.int .i64 8,.bool gd,.slice ad nd cd,.slice ap np cp,.bool gk,.slice ak nk ck,.int .i64 v,.slice aq nq cq] 55))=w0 at *
 have H0:=jJ (aI k0 r0);have c0:w0.cell? ⟨w.heap.size,0,none⟩=some (.int .i64 8):=r0.cell 0;have hs0:(strOf (bC 8)).size≤21:=by rw [aT];exact bL HA.o.2.2.1.1 HA.o.2.2.1.2
 clear k0 r0;go_upto_region 2 with (go_at_call 95;refine (itoa_any HA.o.2.2.1 (HA.o.1.keepNil H0.o.1)).mono ?_;rintro e w1 ⟨rfl,hk1⟩;have r1:=H0.o.2.keep hk1 id;have d0:w1.cell? ⟨w.heap.size,0,none⟩=some (.int .i64 8):=r1.cell 0;have d6:w1.cell? ⟨w.heap.size,6,none⟩=some (.int .i64 v):=r1.cell 6;have d7:w1.cell? ⟨w.heap.size,7,none⟩=some (.slice aq nq cq):=r1.cell 7;have H1:=jJ (aI hk1 r1);clear hk1 r1)
 rw [show strOf (bC 8)++(⟨#[32]⟩:ByteArray)=strOf (bC 8++[32]) from bJ _ [32]];obtain ⟨t0,ht0⟩:∃t,t=bC 8++[32]:=⟨_,rfl⟩;rw [←ht0];have hs1:(strOf t0).size≤22:=by rw [aT,ht0,aZ1];rw [aT] at hs0;simp;omega
 have HT0:=jJ ht0;have hs2:(strOf (bC v)).size≤21:=by rw [aT];exact bL HA.o.2.2.2.1.1 HA.o.2.2.2.1.2
 clear ht0 hs0 c0;have hs3:(strOf (bC v++[58])).size≤22:=by rw [aT,aZ1];rw [aT] at hs2;simp;omega
 have he3:strOf (bC v)++(⟨#[58]⟩:ByteArray)=strOf (bC v++[58]):=bJ _ [58];go_upto_region 17 with (go_at_call 95;refine (itoa_any HA.o.2.2.2.1 ((HA.o.1.keepNil H0.o.1).keepNil H1.o.1)).mono ?_;rintro e w2 ⟨rfl,hk2⟩;have r2:=H1.o.2.keep hk2 id;have e7:w2.cell? ⟨w.heap.size,7,none⟩=some (.slice aq nq cq):=r2.cell 7;have H2:=jJ (aI hk2 r2);clear hk2 r2 d7)
 try rw [he3]
 rw [bJ t0];obtain ⟨t1,ht1⟩:∃t,t=t0++(bC v++[58]):=⟨_,rfl⟩;rw [←ht1];rw [HT0.o] at ht1;have hs4:(strOf t1).size≤44:=by rw [ht1,aT,aZ1,←HT0.o];rw [aT] at hs1 hs3;omega
 clear hs1 hs2 hs3 he3 d0 d6;have kw:aA Nil w w2:=(H0.o.1.trans H1.o.1).trans H2.o.1;have HT1:=jJ (aI ht1 kw);have hkd:=HA.o.2.1.keepNil kw;have hle:=(hkd.ex.elim fun f h=>h.1.le);have hcap:=(hkd.ex.elim fun f h=>h.1.cap);have hlen:q.length=nq:=SlOf.len hkd;have HKD:=jJ (aI hkd hlen);clear ht1 kw hkd hlen;go_wp2_with fail
 go_loopw [3,59] (fun u i wr=>∃n:Nat,i=.int .i64 n∧n≤nq∧u=.string (strOf (t1++cL (q.take n)))∧aA Nil w2 wr) (fun _ i _=>nq-(intOf i).toNat)
 case atStart=>exact⟨0,rfl,aZ2 _,by rw [List.take_zero,show cL []=[] from rfl,fZ2],aA.refl _ _⟩
 case round=>
  obtain ⟨n,rfl,hn1,rfl,hkr⟩:=hrel;have hsz:(strOf (t1++cL (q.take n))).size≤44+22*n:=by
   rw [aT,aZ1];rw [aT] at hs4;have h1:=length_kidsTxt (q.take n) fun x hx=>HA.o.r4.1 x (aZ3 hx);have h2:(q.take n).length≤n:=by rw [iZ1];exact Nat.min_le_left _ _
   omega
  obtain ⟨t2,ht2⟩:∃t,t=t1++cL (q.take n):=⟨_,rfl⟩;rw [←ht2] at hsz⊢;have HK:=jJ (aI ht2 hkr);clear ht2 hkr;by_cases hnq:n<nq
  ·have hkd2:=HKD.o.1.keepNil HK.o.2;obtain ⟨bq,oq,rfl,hcell⟩:=aY hkd2 hnq;have htk:q.take (n+1)=q.take n++[q.getD n 0]:=by
    have h1:n<q.length:=by rw [HKD.o.2];exact hnq
    rw [List.take_succ_eq_append_getElem h1];simp [List.getD,h1]
   have hx:I64 (q.getD n 0):=HA.o.r4.1 _ (by
    have h1:n<q.length:=by rw [HKD.o.2];exact hnq
    simp [List.getD,h1])
   have HX:=jJ (aI htk hx);clear htk hkd2;generalize q.getD n 0=x at *
   have hs5:(strOf (bC x)).size≤21:=by rw [aT];exact bL hx.1 hx.2
   clear hx;have hs6:(strOf (bC x++[44])).size≤22:=by rw [aT,aZ1];rw [aT] at hs5;simp;omega
   have he6:strOf (bC x)++(⟨#[44]⟩:ByteArray)=strOf (bC x++[44]):=bJ _ [44];go_wp2_with (go_at_call 95;refine (itoa_any HX.o.2 ((HA.o.1.keepNil HT1.o.2).keepNil HK.o.2)).mono ?_;rintro e w3 ⟨rfl,hk3⟩;have H3:=jJ hk3;clear hk3)
   go_roundw
   case rel=>
    refine ⟨n+1,by go_num,hnq,?_,HK.o.2.trans H3.o⟩;rw [HX.o.1,kidsTxt_snoc,←lZ2,←HK.o.1];first|rw [he6,bJ]|rw [bJ]
   case measure=>simp [intOf];omega
  ·have en:nq=n:=by omega
   go_wp2_with fail
   go_ret
   refine ⟨?_,HT1.o.2.trans HK.o.2⟩;rw [HA.o.r5,←HT1.o.1,HK.o.1,eZ1 (by rw [HKD.o.2];omega)];rfl
end Go.Proofs.Q
