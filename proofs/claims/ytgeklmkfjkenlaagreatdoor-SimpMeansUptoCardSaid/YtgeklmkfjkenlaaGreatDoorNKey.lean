/- What arena.key does: a node's text. -/
import Derived.Test.YtgeklmkfjkenlaaGreatDoorNBytes
import Derived.Test.YtgeklmkfjkenlaaGreatDoorNAtom6
set_option linter.unusedSimpArgs false
set_option linter.unusedVariables false
set_option maxRecDepth 100000
set_option maxHeartbeats 4000000
namespace Go.Proofs.Q
open Go.RowKit Tryz
section
variable {a:Option Addr} {M:Nat→Prop} {l:List Int} {w:World} {n c i:Nat}
structure aT where
 kind:Int
 d:Int
 t:aY
 var:Int
 kids:List Int
def RI (cs:List Value) (x:Int):Prop:=cs=[.int .i64 x]
def bP (M:Nat→Prop) (w:World) (a:Option Addr) (n c:Nat) (l:List Int):Prop:=SlOf M w 1 RI 0 a n c l
theorem bP.keepNil {w':World} (h:bP M w a n c l) (k:aA Nil w w'):bP M w' a n c l:=SlOf.move h k (fun _ _ h=>h.elim) (fun _ _=>id) fun _ _ h=>h
structure NodeAt (M:Nat→Prop) (w:World) (gd:Bool) (ad:Option Addr) (nd cd:Nat) (ap:Option Addr) (np cp:Nat) (gk:Bool) (ak:Option Addr) (nk ck:Nat) (aq:Option Addr) (nq cq:Nat) (N:aT):Prop where
 d:ZN M w gd ad nd cd N.d
 t:TermAt M w ap np cp gk ak nk ck N.t
 kids:bP M w aq nq cq N.kids
theorem aW (h:bP M w a n c l) (hi:i<n):∃b off,a=some ⟨b,off,none⟩∧w.cell? ⟨b,off+i,none⟩=some (.int .i64 (l.getD i 0)):=by
 obtain ⟨f,hs,hr⟩:=h.ex;obtain ⟨b,off,rfl,hb,hn,hc⟩:=hs.at (by omega);refine ⟨b,off,rfl,?_⟩;have h1:=hc i 0 hi (by omega);obtain ⟨h2,h3⟩:=hr i hi;rw [Nat.mul_one,Nat.add_zero] at h1;rw [h1,show (f i)=[.int .i64 (l.getD i 0)] from h3];rfl
def strOf (l:List Nat):ByteArray:=⟨(l.map UInt8.ofNat).toArray⟩
theorem strOf_nats (l:List UInt8):strOf (nats l)=⟨l.toArray⟩:=by
 unfold strOf nats;rw [List.map_map];congr 2;conv=>rhs;rw [←List.map_id l]
 exact List.map_congr_left fun x _=>by simp
theorem bF (l m:List Nat):strOf l++strOf m=strOf (l++m):=by
 apply ByteArray.ext;simp [strOf,ByteArray.data_append]
theorem aR (l:List Nat):(strOf l).size=l.length:=by simp [strOf,ByteArray.size]
theorem bI {i:Int} (h0:-9223372036854775808≤i) (h1:i≤9223372036854775807):(bB i).length≤21:=by
 rw [bB,Lib.itoa];split
 ·have:=length_decN (u:=i.natAbs) (by omega);rw [decN] at this;simp only [nats,dZ2,gZ1] at this⊢;omega
 ·have:=length_decN (u:=i.toNat) (by omega);rw [decN] at this;omega
def bZ (l:aM):List Nat:=l.flatMap fun p=>bB p.1++dP p.2
def cM (l:List Int):List Nat:=l.flatMap fun k=>bB k++[44]
theorem kidsTxt_snoc (l:List Int) (x:Int):cM (l++[x])=cM l++(bB x++[44]):=by simp [cM]
theorem length_kidsTxt:∀(l:List Int),(∀x∈l,-9223372036854775808≤x∧x≤9223372036854775807)→(cM l).length≤22*l.length
 | [],_=>by simp [cM]
 | x::l,h=>by
  have h1:=length_kidsTxt l fun y hy=>h y (lZ1 _ hy);have h2:=bI (h x (kZ1 ..)).1 (h x (kZ1 ..)).2;rw [show cM (x::l)=(bB x++[44])++cM l from rfl,aZ1,aZ1,gZ1];simp only [gZ1,gZ2];omega
def bA (N:aT):List Nat:=bB N.kind++[32]++(if N.kind=2∨N.kind=3∨N.kind=4 then dP N.d++dP N.t.k++bZ N.t.parts else (if N.kind=7∨N.kind=8 then bB N.var++[58] else [])++cM N.kids)
def I64 (v:Int):Prop:=-9223372036854775808≤v∧v≤9223372036854775807
end
section
variable {M:Nat→Prop} {w w':World} {B cd np cp nk ck nq cq:Nat} {v d z n:Int} {l:aM} {gd gk:Bool} {ad ap ak aq:Option Addr}
def Tab (B:Nat) (w:World):Prop:=B≤w.heap.size∧Lib.TabBelow prog B w "internal/strconv.uint64pow10" .u64 Lib.pow10Tab
theorem Tab.keep (h:Tab B w) (k:aA M w w') (hM:∀b,M b→B≤b):Tab B w':=⟨bZ1 h.1 k.size,h.2.on (below_of k hM h.1)⟩
theorem Tab.keepNil (h:Tab B w) (k:aA Nil w w'):Tab B w':=h.keep k fun _ h=>h.elim
theorem itoa_any (hn:I64 n) (h:Tab B w):Calls prog 190 #[.int .i64 n] w fun e w'=>e=.returned (.string (strOf (bB n)))∧aA Nil w w':=by
 refine (Tryz.strconv_Itoa n hn.1 hn.2 w h.2.here).mono ?_;rintro e w' ⟨rfl,k,os,rfl⟩;exact⟨by rw [bB,strOf_nats],keeps_grow w k os⟩
theorem key5 {nd:Nat} {q:List Int} (hT:Tab B w) (h:NodeAt M w gd ad nd cd ap np cp gk ak nk ck aq nq cq ⟨5,d,⟨l,z⟩,v,q⟩) (hv:I64 v) (hq:∀x∈q,I64 x) (hn:nq≤16777216) :
  Calls prog 143 #[.agg #[.int .i64 5,.bool gd,.slice ad nd cd,.slice ap np cp,.bool gk,.slice ak nk ck,.int .i64 v,.slice aq nq cq]] w fun e w'=>e=.returned (.string (strOf (bA ⟨5,d,⟨l,z⟩,v,q⟩)))∧aA Nil w w':=by
 have hkt:bA ⟨5,d,⟨l,z⟩,v,q⟩=bB 5++[32]++cM q:=by
  unfold bA;simp only;rw [if_neg (by omega),if_neg (by omega),gZ3]
 have hkI:I64 5:=by unfold I64;omega
 have hkd:=h.kids;have HA:=jJ (aI6 hT hkd hkI hv hq hkt);clear hT h hkI hv hq hkt hkd;go_enter func143,ntmps143
 go_upto_region 1 with (fail)
 obtain ⟨w0,e_1,k0,r0⟩:=bx1 w 68 [.int .i64 5,.bool gd,.slice ad nd cd,.slice ap np cp,.bool gk,.slice ak nk ck,.int .i64 v,.slice aq nq cq];rw [e_1];clear e_1;have H0:=jJ (aI k0 r0);have c0:w0.cell? ⟨w.heap.size,0,none⟩=some (.int .i64 5):=r0.cell 0;have hs0:(strOf (bB 5)).size≤21:=by rw [aR];exact bI HA.o.2.2.1.1 HA.o.2.2.1.2
 clear k0 r0;go_upto_region 2 with (go_at_call 190;refine (itoa_any HA.o.2.2.1 (HA.o.1.keepNil H0.o.1)).mono ?_;rintro e w1 ⟨rfl,hk1⟩;have r1:=H0.o.2.keep hk1 id;have d0:w1.cell? ⟨w.heap.size,0,none⟩=some (.int .i64 5):=r1.cell 0;have d6:w1.cell? ⟨w.heap.size,6,none⟩=some (.int .i64 v):=r1.cell 6;have d7:w1.cell? ⟨w.heap.size,7,none⟩=some (.slice aq nq cq):=r1.cell 7;have H1:=jJ (aI hk1 r1);clear hk1 r1)
 rw [show strOf (bB 5)++(⟨#[32]⟩:ByteArray)=strOf (bB 5++[32]) from bF _ [32]];obtain ⟨t0,ht0⟩:∃t,t=bB 5++[32]:=⟨_,rfl⟩;rw [←ht0];have hs1:(strOf t0).size≤22:=by rw [aR,ht0,aZ1];rw [aR] at hs0;simp;omega
 have HT0:=jJ ht0;have hs2:(strOf (bB v)).size≤21:=by rw [aR];exact bI HA.o.2.2.2.1.1 HA.o.2.2.2.1.2
 clear ht0 hs0 c0;go_upto_region 17 with fail
 obtain ⟨t1,ht1⟩:∃t,t=t0:=⟨_,rfl⟩;rw [←ht1];rw [HT0.o] at ht1;have hs4:(strOf t1).size≤44:=by rw [ht1,←HT0.o];omega
 clear hs1 hs2 d0 d6;have kw:aA Nil w w1:=H0.o.1.trans H1.o.1;have HT1:=jJ (aI ht1 kw);have hkd:=HA.o.2.1.keepNil kw;have hle:=(hkd.ex.elim fun f h=>h.1.le);have hcap:=(hkd.ex.elim fun f h=>h.1.cap);have hlen:q.length=nq:=SlOf.len hkd;have HKD:=jJ (aI hkd hlen);clear ht1 kw hkd hlen;go_wp2_with fail
 go_loopw [3,59] (fun u i wr=>∃n:Nat,i=.int .i64 n∧n≤nq∧u=.string (strOf (t1++cM (q.take n)))∧aA Nil w1 wr) (fun _ i _=>nq-(intOf i).toNat)
 case atStart=>exact⟨0,rfl,aZ2 _,by rw [List.take_zero,show cM []=[] from rfl,fZ2],aA.refl _ _⟩
 case round=>
  obtain ⟨n,rfl,hn1,rfl,hkr⟩:=hrel;have hsz:(strOf (t1++cM (q.take n))).size≤44+22*n:=by
   rw [aR,aZ1];rw [aR] at hs4;have h1:=length_kidsTxt (q.take n) fun x hx=>HA.o.r4.1 x (bZ3 hx);have h2:(q.take n).length≤n:=by rw [iZ1];exact Nat.min_le_left _ _
   omega
  obtain ⟨t2,ht2⟩:∃t,t=t1++cM (q.take n):=⟨_,rfl⟩;rw [←ht2] at hsz⊢;have HK:=jJ (aI ht2 hkr);clear ht2 hkr;by_cases hnq:n<nq
  ·have hkd2:=HKD.o.1.keepNil HK.o.2;obtain ⟨bq,oq,rfl,hcell⟩:=aW hkd2 hnq;have htk:q.take (n+1)=q.take n++[q.getD n 0]:=by
    have h1:n<q.length:=by rw [HKD.o.2];exact hnq
    rw [List.take_succ_eq_append_getElem h1];simp [List.getD,h1]
   have hx:I64 (q.getD n 0):=HA.o.r4.1 _ (by
    have h1:n<q.length:=by rw [HKD.o.2];exact hnq
    simp [List.getD,h1])
   have HX:=jJ (aI htk hx);clear htk hkd2;generalize q.getD n 0=x at *
   have hs5:(strOf (bB x)).size≤21:=by rw [aR];exact bI hx.1 hx.2
   clear hx;have hs6:(strOf (bB x++[44])).size≤22:=by rw [aR,aZ1];rw [aR] at hs5;simp;omega
   have he6:strOf (bB x)++(⟨#[44]⟩:ByteArray)=strOf (bB x++[44]):=bF _ [44];go_wp2_with (go_at_call 190;refine (itoa_any HX.o.2 ((HA.o.1.keepNil HT1.o.2).keepNil HK.o.2)).mono ?_;rintro e w3 ⟨rfl,hk3⟩;have H3:=jJ hk3;clear hk3)
   go_roundw
   case rel=>
    refine ⟨n+1,by go_num,hnq,?_,HK.o.2.trans H3.o⟩;rw [HX.o.1,kidsTxt_snoc,←mZ2,←HK.o.1];first|rw [he6,bF]|rw [bF]
   case measure=>simp [intOf];omega
  ·have en:nq=n:=by omega
   go_wp2_with fail
   go_ret
   refine ⟨?_,HT1.o.2.trans HK.o.2⟩;rw [HA.o.r5,←HT1.o.1,HK.o.1,eZ1 (by rw [HKD.o.2];omega)];rfl
theorem key6 {nd:Nat} {q:List Int} (hT:Tab B w) (h:NodeAt M w gd ad nd cd ap np cp gk ak nk ck aq nq cq ⟨6,d,⟨l,z⟩,v,q⟩) (hv:I64 v) (hq:∀x∈q,I64 x) (hn:nq≤16777216) :
  Calls prog 143 #[.agg #[.int .i64 6,.bool gd,.slice ad nd cd,.slice ap np cp,.bool gk,.slice ak nk ck,.int .i64 v,.slice aq nq cq]] w fun e w'=>e=.returned (.string (strOf (bA ⟨6,d,⟨l,z⟩,v,q⟩)))∧aA Nil w w':=by
 have hkt:bA ⟨6,d,⟨l,z⟩,v,q⟩=bB 6++[32]++cM q:=by
  unfold bA;simp only;rw [if_neg (by omega),if_neg (by omega),gZ3]
 have hkI:I64 6:=by unfold I64;omega
 have hkd:=h.kids;have HA:=jJ (aI6 hT hkd hkI hv hq hkt);clear hT h hkI hv hq hkt hkd;go_enter func143,ntmps143
 go_upto_region 1 with (fail)
 obtain ⟨w0,e_2,k0,r0⟩:=bx1 w 68 [.int .i64 6,.bool gd,.slice ad nd cd,.slice ap np cp,.bool gk,.slice ak nk ck,.int .i64 v,.slice aq nq cq];rw [e_2];clear e_2;have H0:=jJ (aI k0 r0);have c0:w0.cell? ⟨w.heap.size,0,none⟩=some (.int .i64 6):=r0.cell 0;have hs0:(strOf (bB 6)).size≤21:=by rw [aR];exact bI HA.o.2.2.1.1 HA.o.2.2.1.2
 clear k0 r0;go_upto_region 2 with (go_at_call 190;refine (itoa_any HA.o.2.2.1 (HA.o.1.keepNil H0.o.1)).mono ?_;rintro e w1 ⟨rfl,hk1⟩;have r1:=H0.o.2.keep hk1 id;have d0:w1.cell? ⟨w.heap.size,0,none⟩=some (.int .i64 6):=r1.cell 0;have d6:w1.cell? ⟨w.heap.size,6,none⟩=some (.int .i64 v):=r1.cell 6;have d7:w1.cell? ⟨w.heap.size,7,none⟩=some (.slice aq nq cq):=r1.cell 7;have H1:=jJ (aI hk1 r1);clear hk1 r1)
 rw [show strOf (bB 6)++(⟨#[32]⟩:ByteArray)=strOf (bB 6++[32]) from bF _ [32]];obtain ⟨t0,ht0⟩:∃t,t=bB 6++[32]:=⟨_,rfl⟩;rw [←ht0];have hs1:(strOf t0).size≤22:=by rw [aR,ht0,aZ1];rw [aR] at hs0;simp;omega
 have HT0:=jJ ht0;have hs2:(strOf (bB v)).size≤21:=by rw [aR];exact bI HA.o.2.2.2.1.1 HA.o.2.2.2.1.2
 clear ht0 hs0 c0;go_upto_region 17 with fail
 obtain ⟨t1,ht1⟩:∃t,t=t0:=⟨_,rfl⟩;rw [←ht1];rw [HT0.o] at ht1;have hs4:(strOf t1).size≤44:=by rw [ht1,←HT0.o];omega
 clear hs1 hs2 d0 d6;have kw:aA Nil w w1:=H0.o.1.trans H1.o.1;have HT1:=jJ (aI ht1 kw);have hkd:=HA.o.2.1.keepNil kw;have hle:=(hkd.ex.elim fun f h=>h.1.le);have hcap:=(hkd.ex.elim fun f h=>h.1.cap);have hlen:q.length=nq:=SlOf.len hkd;have HKD:=jJ (aI hkd hlen);clear ht1 kw hkd hlen;go_wp2_with fail
 go_loopw [3,59] (fun u i wr=>∃n:Nat,i=.int .i64 n∧n≤nq∧u=.string (strOf (t1++cM (q.take n)))∧aA Nil w1 wr) (fun _ i _=>nq-(intOf i).toNat)
 case atStart=>exact⟨0,rfl,aZ2 _,by rw [List.take_zero,show cM []=[] from rfl,fZ2],aA.refl _ _⟩
 case round=>
  obtain ⟨n,rfl,hn1,rfl,hkr⟩:=hrel;have hsz:(strOf (t1++cM (q.take n))).size≤44+22*n:=by
   rw [aR,aZ1];rw [aR] at hs4;have h1:=length_kidsTxt (q.take n) fun x hx=>HA.o.r4.1 x (bZ3 hx);have h2:(q.take n).length≤n:=by rw [iZ1];exact Nat.min_le_left _ _
   omega
  obtain ⟨t2,ht2⟩:∃t,t=t1++cM (q.take n):=⟨_,rfl⟩;rw [←ht2] at hsz⊢;have HK:=jJ (aI ht2 hkr);clear ht2 hkr;by_cases hnq:n<nq
  ·have hkd2:=HKD.o.1.keepNil HK.o.2;obtain ⟨bq,oq,rfl,hcell⟩:=aW hkd2 hnq;have htk:q.take (n+1)=q.take n++[q.getD n 0]:=by
    have h1:n<q.length:=by rw [HKD.o.2];exact hnq
    rw [List.take_succ_eq_append_getElem h1];simp [List.getD,h1]
   have hx:I64 (q.getD n 0):=HA.o.r4.1 _ (by
    have h1:n<q.length:=by rw [HKD.o.2];exact hnq
    simp [List.getD,h1])
   have HX:=jJ (aI htk hx);clear htk hkd2;generalize q.getD n 0=x at *
   have hs5:(strOf (bB x)).size≤21:=by rw [aR];exact bI hx.1 hx.2
   clear hx;have hs6:(strOf (bB x++[44])).size≤22:=by rw [aR,aZ1];rw [aR] at hs5;simp;omega
   have he6:strOf (bB x)++(⟨#[44]⟩:ByteArray)=strOf (bB x++[44]):=bF _ [44];go_wp2_with (go_at_call 190;refine (itoa_any HX.o.2 ((HA.o.1.keepNil HT1.o.2).keepNil HK.o.2)).mono ?_;rintro e w3 ⟨rfl,hk3⟩;have H3:=jJ hk3;clear hk3)
   go_roundw
   case rel=>
    refine ⟨n+1,by go_num,hnq,?_,HK.o.2.trans H3.o⟩;rw [HX.o.1,kidsTxt_snoc,←mZ2,←HK.o.1];first|rw [he6,bF]|rw [bF]
   case measure=>simp [intOf];omega
  ·have en:nq=n:=by omega
   go_wp2_with fail
   go_ret
   refine ⟨?_,HT1.o.2.trans HK.o.2⟩;rw [HA.o.r5,←HT1.o.1,HK.o.1,eZ1 (by rw [HKD.o.2];omega)];rfl
theorem key7 {nd:Nat} {q:List Int} (hT:Tab B w) (h:NodeAt M w gd ad nd cd ap np cp gk ak nk ck aq nq cq ⟨7,d,⟨l,z⟩,v,q⟩) (hv:I64 v) (hq:∀x∈q,I64 x) (hn:nq≤16777216) :
  Calls prog 143 #[.agg #[.int .i64 7,.bool gd,.slice ad nd cd,.slice ap np cp,.bool gk,.slice ak nk ck,.int .i64 v,.slice aq nq cq]] w fun e w'=>e=.returned (.string (strOf (bA ⟨7,d,⟨l,z⟩,v,q⟩)))∧aA Nil w w':=by
 have hkt:bA ⟨7,d,⟨l,z⟩,v,q⟩=bB 7++[32]++(bB v++[58])++cM q:=by
  unfold bA;simp only;rw [if_neg (by omega),if_pos (by simp),←mZ2]
 have hkI:I64 7:=by unfold I64;omega
 have hkd:=h.kids;have HA:=jJ (aI6 hT hkd hkI hv hq hkt);clear hT h hkI hv hq hkt hkd;go_enter func143,ntmps143
 go_upto_region 1 with (fail)
 obtain ⟨w0,e_3,k0,r0⟩:=bx1 w 68 [.int .i64 7,.bool gd,.slice ad nd cd,.slice ap np cp,.bool gk,.slice ak nk ck,.int .i64 v,.slice aq nq cq];rw [e_3];clear e_3;have H0:=jJ (aI k0 r0);have c0:w0.cell? ⟨w.heap.size,0,none⟩=some (.int .i64 7):=r0.cell 0;have hs0:(strOf (bB 7)).size≤21:=by rw [aR];exact bI HA.o.2.2.1.1 HA.o.2.2.1.2
 clear k0 r0;go_upto_region 2 with (go_at_call 190;refine (itoa_any HA.o.2.2.1 (HA.o.1.keepNil H0.o.1)).mono ?_;rintro e w1 ⟨rfl,hk1⟩;have r1:=H0.o.2.keep hk1 id;have d0:w1.cell? ⟨w.heap.size,0,none⟩=some (.int .i64 7):=r1.cell 0;have d6:w1.cell? ⟨w.heap.size,6,none⟩=some (.int .i64 v):=r1.cell 6;have d7:w1.cell? ⟨w.heap.size,7,none⟩=some (.slice aq nq cq):=r1.cell 7;have H1:=jJ (aI hk1 r1);clear hk1 r1)
 rw [show strOf (bB 7)++(⟨#[32]⟩:ByteArray)=strOf (bB 7++[32]) from bF _ [32]];obtain ⟨t0,ht0⟩:∃t,t=bB 7++[32]:=⟨_,rfl⟩;rw [←ht0];have hs1:(strOf t0).size≤22:=by rw [aR,ht0,aZ1];rw [aR] at hs0;simp;omega
 have HT0:=jJ ht0;have hs2:(strOf (bB v)).size≤21:=by rw [aR];exact bI HA.o.2.2.2.1.1 HA.o.2.2.2.1.2
 clear ht0 hs0 c0;have hs3:(strOf (bB v++[58])).size≤22:=by rw [aR,aZ1];rw [aR] at hs2;simp;omega
 have he3:strOf (bB v)++(⟨#[58]⟩:ByteArray)=strOf (bB v++[58]):=bF _ [58];go_upto_region 17 with (go_at_call 190;refine (itoa_any HA.o.2.2.2.1 ((HA.o.1.keepNil H0.o.1).keepNil H1.o.1)).mono ?_;rintro e w2 ⟨rfl,hk2⟩;have r2:=H1.o.2.keep hk2 id;have e7:w2.cell? ⟨w.heap.size,7,none⟩=some (.slice aq nq cq):=r2.cell 7;have H2:=jJ (aI hk2 r2);clear hk2 r2 d7)
 try rw [he3]
 rw [bF t0];obtain ⟨t1,ht1⟩:∃t,t=t0++(bB v++[58]):=⟨_,rfl⟩;rw [←ht1];rw [HT0.o] at ht1;have hs4:(strOf t1).size≤44:=by rw [ht1,aR,aZ1,←HT0.o];rw [aR] at hs1 hs3;omega
 clear hs1 hs2 hs3 he3 d0 d6;have kw:aA Nil w w2:=(H0.o.1.trans H1.o.1).trans H2.o.1;have HT1:=jJ (aI ht1 kw);have hkd:=HA.o.2.1.keepNil kw;have hle:=(hkd.ex.elim fun f h=>h.1.le);have hcap:=(hkd.ex.elim fun f h=>h.1.cap);have hlen:q.length=nq:=SlOf.len hkd;have HKD:=jJ (aI hkd hlen);clear ht1 kw hkd hlen;go_wp2_with fail
 go_loopw [3,59] (fun u i wr=>∃n:Nat,i=.int .i64 n∧n≤nq∧u=.string (strOf (t1++cM (q.take n)))∧aA Nil w2 wr) (fun _ i _=>nq-(intOf i).toNat)
 case atStart=>exact⟨0,rfl,aZ2 _,by rw [List.take_zero,show cM []=[] from rfl,fZ2],aA.refl _ _⟩
 case round=>
  obtain ⟨n,rfl,hn1,rfl,hkr⟩:=hrel;have hsz:(strOf (t1++cM (q.take n))).size≤44+22*n:=by
   rw [aR,aZ1];rw [aR] at hs4;have h1:=length_kidsTxt (q.take n) fun x hx=>HA.o.r4.1 x (bZ3 hx);have h2:(q.take n).length≤n:=by rw [iZ1];exact Nat.min_le_left _ _
   omega
  obtain ⟨t2,ht2⟩:∃t,t=t1++cM (q.take n):=⟨_,rfl⟩;rw [←ht2] at hsz⊢;have HK:=jJ (aI ht2 hkr);clear ht2 hkr;by_cases hnq:n<nq
  ·have hkd2:=HKD.o.1.keepNil HK.o.2;obtain ⟨bq,oq,rfl,hcell⟩:=aW hkd2 hnq;have htk:q.take (n+1)=q.take n++[q.getD n 0]:=by
    have h1:n<q.length:=by rw [HKD.o.2];exact hnq
    rw [List.take_succ_eq_append_getElem h1];simp [List.getD,h1]
   have hx:I64 (q.getD n 0):=HA.o.r4.1 _ (by
    have h1:n<q.length:=by rw [HKD.o.2];exact hnq
    simp [List.getD,h1])
   have HX:=jJ (aI htk hx);clear htk hkd2;generalize q.getD n 0=x at *
   have hs5:(strOf (bB x)).size≤21:=by rw [aR];exact bI hx.1 hx.2
   clear hx;have hs6:(strOf (bB x++[44])).size≤22:=by rw [aR,aZ1];rw [aR] at hs5;simp;omega
   have he6:strOf (bB x)++(⟨#[44]⟩:ByteArray)=strOf (bB x++[44]):=bF _ [44];go_wp2_with (go_at_call 190;refine (itoa_any HX.o.2 ((HA.o.1.keepNil HT1.o.2).keepNil HK.o.2)).mono ?_;rintro e w3 ⟨rfl,hk3⟩;have H3:=jJ hk3;clear hk3)
   go_roundw
   case rel=>
    refine ⟨n+1,by go_num,hnq,?_,HK.o.2.trans H3.o⟩;rw [HX.o.1,kidsTxt_snoc,←mZ2,←HK.o.1];first|rw [he6,bF]|rw [bF]
   case measure=>simp [intOf];omega
  ·have en:nq=n:=by omega
   go_wp2_with fail
   go_ret
   refine ⟨?_,HT1.o.2.trans HK.o.2⟩;rw [HA.o.r5,←HT1.o.1,HK.o.1,eZ1 (by rw [HKD.o.2];omega)];rfl
theorem key8 {nd:Nat} {q:List Int} (hT:Tab B w) (h:NodeAt M w gd ad nd cd ap np cp gk ak nk ck aq nq cq ⟨8,d,⟨l,z⟩,v,q⟩) (hv:I64 v) (hq:∀x∈q,I64 x) (hn:nq≤16777216) :
  Calls prog 143 #[.agg #[.int .i64 8,.bool gd,.slice ad nd cd,.slice ap np cp,.bool gk,.slice ak nk ck,.int .i64 v,.slice aq nq cq]] w fun e w'=>e=.returned (.string (strOf (bA ⟨8,d,⟨l,z⟩,v,q⟩)))∧aA Nil w w':=by
 have hkt:bA ⟨8,d,⟨l,z⟩,v,q⟩=bB 8++[32]++(bB v++[58])++cM q:=by
  unfold bA;simp only;rw [if_neg (by omega),if_pos (by simp),←mZ2]
 have hkI:I64 8:=by unfold I64;omega
 have hkd:=h.kids;have HA:=jJ (aI6 hT hkd hkI hv hq hkt);clear hT h hkI hv hq hkt hkd;go_enter func143,ntmps143
 go_upto_region 1 with (fail)
 obtain ⟨w0,e_4,k0,r0⟩:=bx1 w 68 [.int .i64 8,.bool gd,.slice ad nd cd,.slice ap np cp,.bool gk,.slice ak nk ck,.int .i64 v,.slice aq nq cq];rw [e_4];clear e_4;have H0:=jJ (aI k0 r0);have c0:w0.cell? ⟨w.heap.size,0,none⟩=some (.int .i64 8):=r0.cell 0;have hs0:(strOf (bB 8)).size≤21:=by rw [aR];exact bI HA.o.2.2.1.1 HA.o.2.2.1.2
 clear k0 r0;go_upto_region 2 with (go_at_call 190;refine (itoa_any HA.o.2.2.1 (HA.o.1.keepNil H0.o.1)).mono ?_;rintro e w1 ⟨rfl,hk1⟩;have r1:=H0.o.2.keep hk1 id;have d0:w1.cell? ⟨w.heap.size,0,none⟩=some (.int .i64 8):=r1.cell 0;have d6:w1.cell? ⟨w.heap.size,6,none⟩=some (.int .i64 v):=r1.cell 6;have d7:w1.cell? ⟨w.heap.size,7,none⟩=some (.slice aq nq cq):=r1.cell 7;have H1:=jJ (aI hk1 r1);clear hk1 r1)
 rw [show strOf (bB 8)++(⟨#[32]⟩:ByteArray)=strOf (bB 8++[32]) from bF _ [32]];obtain ⟨t0,ht0⟩:∃t,t=bB 8++[32]:=⟨_,rfl⟩;rw [←ht0];have hs1:(strOf t0).size≤22:=by rw [aR,ht0,aZ1];rw [aR] at hs0;simp;omega
 have HT0:=jJ ht0;have hs2:(strOf (bB v)).size≤21:=by rw [aR];exact bI HA.o.2.2.2.1.1 HA.o.2.2.2.1.2
 clear ht0 hs0 c0;have hs3:(strOf (bB v++[58])).size≤22:=by rw [aR,aZ1];rw [aR] at hs2;simp;omega
 have he3:strOf (bB v)++(⟨#[58]⟩:ByteArray)=strOf (bB v++[58]):=bF _ [58];go_upto_region 17 with (go_at_call 190;refine (itoa_any HA.o.2.2.2.1 ((HA.o.1.keepNil H0.o.1).keepNil H1.o.1)).mono ?_;rintro e w2 ⟨rfl,hk2⟩;have r2:=H1.o.2.keep hk2 id;have e7:w2.cell? ⟨w.heap.size,7,none⟩=some (.slice aq nq cq):=r2.cell 7;have H2:=jJ (aI hk2 r2);clear hk2 r2 d7)
 try rw [he3]
 rw [bF t0];obtain ⟨t1,ht1⟩:∃t,t=t0++(bB v++[58]):=⟨_,rfl⟩;rw [←ht1];rw [HT0.o] at ht1;have hs4:(strOf t1).size≤44:=by rw [ht1,aR,aZ1,←HT0.o];rw [aR] at hs1 hs3;omega
 clear hs1 hs2 hs3 he3 d0 d6;have kw:aA Nil w w2:=(H0.o.1.trans H1.o.1).trans H2.o.1;have HT1:=jJ (aI ht1 kw);have hkd:=HA.o.2.1.keepNil kw;have hle:=(hkd.ex.elim fun f h=>h.1.le);have hcap:=(hkd.ex.elim fun f h=>h.1.cap);have hlen:q.length=nq:=SlOf.len hkd;have HKD:=jJ (aI hkd hlen);clear ht1 kw hkd hlen;go_wp2_with fail
 go_loopw [3,59] (fun u i wr=>∃n:Nat,i=.int .i64 n∧n≤nq∧u=.string (strOf (t1++cM (q.take n)))∧aA Nil w2 wr) (fun _ i _=>nq-(intOf i).toNat)
 case atStart=>exact⟨0,rfl,aZ2 _,by rw [List.take_zero,show cM []=[] from rfl,fZ2],aA.refl _ _⟩
 case round=>
  obtain ⟨n,rfl,hn1,rfl,hkr⟩:=hrel;have hsz:(strOf (t1++cM (q.take n))).size≤44+22*n:=by
   rw [aR,aZ1];rw [aR] at hs4;have h1:=length_kidsTxt (q.take n) fun x hx=>HA.o.r4.1 x (bZ3 hx);have h2:(q.take n).length≤n:=by rw [iZ1];exact Nat.min_le_left _ _
   omega
  obtain ⟨t2,ht2⟩:∃t,t=t1++cM (q.take n):=⟨_,rfl⟩;rw [←ht2] at hsz⊢;have HK:=jJ (aI ht2 hkr);clear ht2 hkr;by_cases hnq:n<nq
  ·have hkd2:=HKD.o.1.keepNil HK.o.2;obtain ⟨bq,oq,rfl,hcell⟩:=aW hkd2 hnq;have htk:q.take (n+1)=q.take n++[q.getD n 0]:=by
    have h1:n<q.length:=by rw [HKD.o.2];exact hnq
    rw [List.take_succ_eq_append_getElem h1];simp [List.getD,h1]
   have hx:I64 (q.getD n 0):=HA.o.r4.1 _ (by
    have h1:n<q.length:=by rw [HKD.o.2];exact hnq
    simp [List.getD,h1])
   have HX:=jJ (aI htk hx);clear htk hkd2;generalize q.getD n 0=x at *
   have hs5:(strOf (bB x)).size≤21:=by rw [aR];exact bI hx.1 hx.2
   clear hx;have hs6:(strOf (bB x++[44])).size≤22:=by rw [aR,aZ1];rw [aR] at hs5;simp;omega
   have he6:strOf (bB x)++(⟨#[44]⟩:ByteArray)=strOf (bB x++[44]):=bF _ [44];go_wp2_with (go_at_call 190;refine (itoa_any HX.o.2 ((HA.o.1.keepNil HT1.o.2).keepNil HK.o.2)).mono ?_;rintro e w3 ⟨rfl,hk3⟩;have H3:=jJ hk3;clear hk3)
   go_roundw
   case rel=>
    refine ⟨n+1,by go_num,hnq,?_,HK.o.2.trans H3.o⟩;rw [HX.o.1,kidsTxt_snoc,←mZ2,←HK.o.1];first|rw [he6,bF]|rw [bF]
   case measure=>simp [intOf];omega
  ·have en:nq=n:=by omega
   go_wp2_with fail
   go_ret
   refine ⟨?_,HT1.o.2.trans HK.o.2⟩;rw [HA.o.r5,←HT1.o.1,HK.o.1,eZ1 (by rw [HKD.o.2];omega)];rfl
end
end Go.Proofs.Q
